/- What the law leans on, part 7: Gb, Pd, Pbk, Pdp, L64, Pnu. -/
import Derived.Test.YthkpnnbjcendcaaQd6
import Derived.Laws.BitsAllLaws
set_option linter.unusedVariables false
set_option linter.unusedSimpArgs false
section
section
open Go.RowKit Go.Proofs.Ythkpnnbjcendcaa.X Go.Proofs.Ythkpnnbjcendcaa.Pl Go.Proofs.YthkpnnbjcendcaaW.PrintWords Go.Proofs.YthkpnnbjcendcaaW.PrintLast Go.Proofs.YthkpnnbjcendcaaW.PrintMore
namespace Go.Proofs.Ythkpnnbjcendcaa.Pure
def secs : Int → Int → List Int → List Int
 | _, _, [] => []
 | a, b, n :: l => wrap64 (wrap64 (n - a) - b) :: secs n (wrap64 (n - a)) l
theorem secs_length (a b : Int) (l : List Int) : (secs a b l).length = l.length := by
 induction l generalizing a b with
 | nil => rfl
 | cons n l ih => simp [secs, ih]
def frs : Int → Int → List Int → List Int
 | _, _, [] => []
 | a, b, s :: l => wrap64 (a + wrap64 (b + s)) :: frs (wrap64 (a + wrap64 (b + s))) (wrap64 (b + s)) l
theorem frs_length (a b : Int) (l : List Int) : (frs a b l).length = l.length := by
 induction l generalizing a b with
 | nil => rfl
 | cons n l ih => simp [frs, ih]
def fits64 (x : Int) : Prop := -9223372036854775808 ≤ x ∧ x ≤ 9223372036854775807
theorem fits_wrap (x : Int) : fits64 (wrap64 x) := by unfold fits64 wrap64; omega
theorem frs_secs (a b : Int) (l : List Int) (hl : ∀ x ∈ l, fits64 x) : frs a b (secs a b l) = l := by
 induction l generalizing a b with
 | nil => rfl
 | cons n l ih =>
  have hn := hl n List.mem_cons_self
  have h1 : wrap64 (b + wrap64 (wrap64 (n - a) - b)) = wrap64 (n - a) := by unfold wrap64; omega
  have h2 : wrap64 (a + wrap64 (n - a)) = n := by unfold fits64 at hn; unfold wrap64; omega
  simp only [secs, frs, h1, h2]
  rw [ih _ _ (fun x hx => hl x (List.mem_cons_of_mem _ hx))]
theorem secs_frs (a b : Int) (l : List Int) (hl : ∀ x ∈ l, fits64 x) : secs a b (frs a b l) = l := by
 induction l generalizing a b with
 | nil => rfl
 | cons s l ih =>
  have hn := hl s List.mem_cons_self
  have h1 : wrap64 (wrap64 (a + wrap64 (b + s)) - a) = wrap64 (b + s) := by unfold wrap64; omega
  have h2 : wrap64 (wrap64 (b + s) - b) = s := by unfold fits64 at hn; unfold wrap64; omega
  simp only [secs, frs, h1, h2]
  rw [ih _ _ (fun x hx => hl x (List.mem_cons_of_mem _ hx))]
def foldN (n : Int) : Nat := if 0 ≤ n then (2 * n).toNat else (-2 * n - 1).toNat
def markB (n : Int) : List Bool :=
 let u := foldN n
 if u = 0 then [false] else if u < 128 then nb 2 2 ++ nb u 7 else if u < 16384 then nb 6 3 ++ nb u 14 else if u < 4294967296 then nb 14 4 ++ nb u 32 else nb 15 4 ++ nb u 64
theorem markB_length (n : Int) : (markB n).length ≤ 68 := by
 unfold markB
 dsimp only
 (repeat' split) <;> simp [nb_length]
def marks : List Int → List Int → List Bool
 | x :: xs, y :: ys => markB x ++ markB y ++ marks xs ys
 | _, _ => []
def varint (n : Nat) : List Int := if h : n < 128 then [(n : Int)] else ((n % 128 + 128 : Nat) : Int) :: varint (n / 128)
termination_by n
decreasing_by omega
end Go.Proofs.Ythkpnnbjcendcaa.Pure
namespace Go.Proofs.Ythkpnnbjcendcaa.Pure
theorem secs_get (l : List Int) : ∀ (a b : Int) (j : Nat), j < l.length →
  (secs a b l).getD j 0 = if j = 0 then wrap64 (wrap64 (l.getD 0 0 - a) - b) else if j = 1 then wrap64 (wrap64 (l.getD 1 0 - l.getD 0 0) - wrap64 (l.getD 0 0 - a)) else wrap64 (wrap64 (l.getD j 0 - l.getD (j - 1) 0) - wrap64 (l.getD (j - 1) 0 - l.getD (j - 2) 0)) := by
 induction l with
 | nil => intro a b j h; simp at h
 | cons x l ih =>
  intro a b j h
  rw [secs]
  match j with
  | 0 => simp
  | 1 =>
   have := ih x (wrap64 (x - a)) 0 (by simp only [List.length_cons] at h; omega)
   simp only [List.getD_cons_succ, List.getD_cons_zero] at this ⊢
   rw [this]
   simp
  | 2 =>
   have := ih x (wrap64 (x - a)) 1 (by simp only [List.length_cons] at h; omega)
   simp only [List.getD_cons_succ, List.getD_cons_zero] at this ⊢
   rw [this]
   simp
  | (j + 3) =>
   have := ih x (wrap64 (x - a)) (j + 2) (by simp only [List.length_cons] at h; omega)
   simp only [List.getD_cons_succ] at this ⊢
   rw [this, if_neg (by omega), if_neg (by omega), if_neg (by omega), if_neg (by omega)]
   rw [show j + 2 - 1 = j + 1 by omega, show j + 2 - 2 = j by omega, show j + 3 - 1 = (j + 1) + 1 by omega, show j + 3 - 2 = j + 1 by omega]
   simp only [List.getD_cons_succ]
theorem rd_get (l : List Int) (j : Nat) : rd l (j : Int) = l.getD j 0 := by unfold rd; rw [Int.toNat_natCast]
end Go.Proofs.Ythkpnnbjcendcaa.Pure
namespace Go.Proofs.Ythkpnnbjcendcaa.Pure
theorem u64_wrap (x : Int) : IntKind.u64.wrap x = x % 18446744073709551616 := by simp [IntKind.wrap, IntKind.bits, IntKind.signed]
theorem foldN_lt {n : Int} (h : fits64 n) : foldN n < 2 ^ 64 := by
 unfold foldN
 unfold fits64 at h
 split <;> omega
theorem xor_run (a : Nat) (ha : a < 2 ^ 64) (b : Int) : Go.bits .xor .u64 (a : Int) b = ((BitVec.ofNat 64 a ^^^ BitVec.ofInt 64 b).toNat : Int) := by
 have h1 : (BitVec.ofNat 64 a ^^^ BitVec.ofInt 64 b).toNat < 2 ^ 64 := BitVec.isLt _
 show IntKind.u64.wrap ((BitVec.ofInt 64 (a : Int) ^^^ BitVec.ofInt 64 b).toNat : Int) = _
 rw [BitVec.ofInt_natCast]
 exact w_u64 (Int.natCast_nonneg _) (by exact_mod_cast h1)
theorem xor_ones (a : Nat) (ha : a < 2 ^ 64) : Go.bits .xor .u64 (a : Int) 18446744073709551615 = ((2 ^ 64 - 1 - a : Nat) : Int) := by
 rw [xor_run a ha, show BitVec.ofInt 64 18446744073709551615 = BitVec.allOnes 64 by decide, BitVec.xor_allOnes, BitVec.toNat_not, BitVec.toNat_ofNat, Nat.mod_eq_of_lt ha]
theorem xor_zero (a : Nat) (ha : a < 2 ^ 64) : Go.bits .xor .u64 (a : Int) 0 = (a : Int) := by
 rw [xor_run a ha, show BitVec.ofInt 64 0 = 0#64 by decide, BitVec.xor_zero, BitVec.toNat_ofNat, Nat.mod_eq_of_lt ha]
theorem fold_f {n : Int} (h : fits64 n) : octs_Fold.f n = some (foldN n : Int) := by
 unfold octs_Fold.f foldN
 unfold fits64 at h
 by_cases h0 : 0 ≤ n
 ·rw [if_pos h0, u64_wrap, u64_wrap, u64_wrap, show n / 9223372036854775808 % 18446744073709551616 = 0 by omega, show n % 18446744073709551616 * 2 % 18446744073709551616 = (((2 * n).toNat : Nat) : Int) by omega, xor_zero _ (by omega)]
 ·rw [if_neg h0, u64_wrap, u64_wrap, u64_wrap, show n / 9223372036854775808 % 18446744073709551616 = 18446744073709551615 by omega, show n % 18446744073709551616 * 2 % 18446744073709551616 = (((2 * n + 18446744073709551616).toNat : Nat) : Int) by omega, xor_ones _ (by omega)]
  congr 1
  omega
theorem ref_fold_f {n : Int} (h : fits64 n) : marigraphref01_Fold.f n = some (foldN n : Int) := by
 unfold marigraphref01_Fold.f foldN
 unfold fits64 at h
 by_cases h0 : 0 ≤ n
 ·rw [if_neg (by omega), if_pos h0, u64_wrap, u64_wrap]
  congr 1
  omega
 ·rw [if_pos (by omega), if_neg h0, u64_wrap, u64_wrap, u64_wrap]
  congr 1
  unfold wrap64
  omega
end Go.Proofs.Ythkpnnbjcendcaa.Pure
namespace Go.Proofs.Ythkpnnbjcendcaa.Pure
def rightB (l : List S52) : Bool := decide (∀ i : Nat, i < l.length → 0 < i → (rd_T52 l ((i - 1 : Nat) : Int)).f0 < (rd_T52 l (i : Int)).f0)
theorem right_from (l : List S52) (hl : l.length < 4611686018427387904) (d : Nat) : ∀ j : Nat, l.length - j = d → j ≤ l.length → (∀ i : Nat, i < j → 0 < i → (rd_T52 l ((i - 1 : Nat) : Int)).f0 < (rd_T52 l (i : Int)).f0) →
  Ev (fun k => steps_Right.l0 k l (l.length : Int) (j : Int)) (rightB l) := by
 induction d with
 | zero =>
  intro j hd hj h
  refine ev_succ (fun k => by rw [steps_Right.l0]) (ev_neg (by omega) (ev_eq (Ev.now _) ?_))
  unfold rightB
  rw [eq_comm, decide_eq_true_iff]
  intro i hi
  exact h i (by omega)
 | succ d ih =>
  intro j hd hj h
  have hnx : wrap64 ((j : Int) + 1) = ((j + 1 : Nat) : Int) := by rw [w64 (by omega) (by omega)]; simp
  refine ev_succ (fun k => by rw [steps_Right.l0]) (ev_pos (by omega) ?_)
  rw [hnx]
  by_cases h0 : (j : Int) > 0
  ·have hpv : wrap64 ((j : Int) - 1) = ((j - 1 : Nat) : Int) := by rw [w64 (by omega) (by omega)]; omega
   rw [hpv]
   refine ev_pos h0 (ev_pos (by omega) (ev_pos (by omega) (ev_pos (by omega) (ev_pos (by omega) ?_))))
   by_cases hc : (rd_T52 l ((j - 1 : Nat) : Int)).f0 ≥ (rd_T52 l (j : Int)).f0
   ·refine ev_pos hc (ev_eq (Ev.now _) ?_)
    unfold rightB
    rw [eq_comm, decide_eq_false_iff_not]
    intro hall
    have := hall j (by omega) (by omega)
    omega
   ·refine ev_neg hc (ih (j + 1) (by omega) (by omega) ?_)
    intro i hi hi0
    by_cases hij : i = j
    ·subst hij; omega
    ·exact h i (by omega) hi0
  ·refine ev_neg h0 (ih (j + 1) (by omega) (by omega) ?_)
   intro i hi hi0
   omega
theorem right_ev (l : List S52) (hl : l.length < 4611686018427387904) : Ev (fun k => steps_Right.f k l) (rightB l) := by
 unfold steps_Right.f
 exact right_from l hl l.length 0 (by omega) (by omega) (fun i hi => absurd hi (by omega))
theorem ref_right_from (l : List S52) (hl : l.length < 4611686018427387904) (d : Nat) : ∀ j : Nat, l.length - j = d → 1 ≤ j → (∀ i : Nat, i < j → i < l.length → 0 < i → (rd_T52 l ((i - 1 : Nat) : Int)).f0 < (rd_T52 l (i : Int)).f0) →
  Ev (fun k => marigraphref04_Right.l0 k l (j : Int)) (rightB l) := by
 induction d with
 | zero =>
  intro j hd hj h
  refine ev_succ (fun k => by rw [marigraphref04_Right.l0]) (ev_neg (by omega) (ev_eq (Ev.now _) ?_))
  unfold rightB
  rw [eq_comm, decide_eq_true_iff]
  intro i hi
  exact h i (by omega) hi
 | succ d ih =>
  intro j hd hj h
  have hnx : wrap64 ((j : Int) + 1) = ((j + 1 : Nat) : Int) := by rw [w64 (by omega) (by omega)]; simp
  have hpv : wrap64 ((j : Int) - 1) = ((j - 1 : Nat) : Int) := by rw [w64 (by omega) (by omega)]; omega
  refine ev_succ (fun k => by rw [marigraphref04_Right.l0]) (ev_pos (by omega) ?_)
  rw [hnx, hpv]
  refine ev_pos (by omega) (ev_pos (by omega) (ev_pos (by omega) ?_))
  by_cases hc : (rd_T52 l (j : Int)).f0 ≤ (rd_T52 l ((j - 1 : Nat) : Int)).f0
  ·refine ev_pos hc (ev_eq (Ev.now _) ?_)
   unfold rightB
   rw [eq_comm, decide_eq_false_iff_not]
   intro hall
   have := hall j (by omega) (by omega)
   omega
  ·refine ev_neg hc (ih (j + 1) (by omega) (by omega) ?_)
   intro i hi hil hi0
   by_cases hij : i = j
   ·subst hij; omega
   ·exact h i (by omega) hil hi0
theorem ref_right_ev (l : List S52) (hl : l.length < 4611686018427387904) : Ev (fun k => marigraphref04_Right.f k l) (rightB l) := by
 unfold marigraphref04_Right.f
 exact ref_right_from l hl (l.length - 1) 1 rfl (by omega) (fun i hi _ h0 => by omega)
def marksP (a b c d : Int) (l : List S52) : List Bool := marks (secs a b (l.map (·.f0))) (secs c d (l.map (·.f1)))
theorem marksP_cons (a b c d : Int) (p : S52) (l : List S52) :
  marksP a b c d (p :: l) = markB (wrap64 (wrap64 (p.f0 - a) - b)) ++ markB (wrap64 (wrap64 (p.f1 - c) - d)) ++ marksP p.f0 (wrap64 (p.f0 - a)) p.f1 (wrap64 (p.f1 - c)) l := rfl
theorem marksP_nil (a b c d : Int) : marksP a b c d [] = [] := rfl
theorem marksP_length (l : List S52) : ∀ a b c d, (marksP a b c d l).length ≤ 136 * l.length := by
 induction l with
 | nil => intro a b c d; simp [marksP_nil]
 | cons p l ih =>
  intro a b c d
  rw [marksP_cons, List.length_append, List.length_append]
  have h1 := markB_length (wrap64 (wrap64 (p.f0 - a) - b))
  have h2 := markB_length (wrap64 (wrap64 (p.f1 - c) - d))
  have h3 := ih p.f0 (wrap64 (p.f0 - a)) p.f1 (wrap64 (p.f1 - c))
  simp only [List.length_cons]
  omega
def putB (l : List S52) : List Int := varint l.length ++ pack (marksP 0 0 0 0 l)
def putR (l : List S52) : List Int × Int := if l.length > 1024 then ([], 3) else if rightB l = false then ([], 1) else (putB l, 0)
def fitP (l : List S52) : Prop := ∀ y ∈ l, fits64 y.f0 ∧ fits64 y.f1
theorem rd52_mem {l : List S52} {i : Nat} (h : i < l.length) : rd_T52 l (i : Int) ∈ l := by
 unfold rd_T52
 rw [Int.toNat_natCast, getD_lt _ _ _ h]
 exact List.getElem_mem h
theorem drop52 {l : List S52} {i : Nat} (h : i < l.length) : l.drop i = rd_T52 l (i : Int) :: l.drop (i + 1) := by
 rw [List.drop_eq_getElem_cons h]
 unfold rd_T52
 rw [Int.toNat_natCast, getD_lt _ _ _ h]
end Go.Proofs.Ythkpnnbjcendcaa.Pure
end
section
open Go.RowKit Go.Proofs.Ythkpnnbjcendcaa.X Go.Proofs.Ythkpnnbjcendcaa.Pl Go.Proofs.Ythkpnnbjcendcaa.Sp Go.Proofs.Ythkpnnbjcendcaa.Pure Go.Proofs.YthkpnnbjcendcaaW.PrintWords Go.Proofs.YthkpnnbjcendcaaW.PrintLast Go.Proofs.YthkpnnbjcendcaaW.PrintMore
namespace Go.Proofs.Ythkpnnbjcendcaa.Sc
abbrev pairR (g : Nat) (a b : Int) : Res := box g #[.int .i64 a, .int .i64 b] 87
set_option maxRecDepth 100000 in
theorem next_calls (g : Nat) (a b n : Int) (w0 w : World) (hB : Below w0.heap.size w0 w) (hO : Own w0.heap.size w (pairR g a b)) :
  Calls Try.prog 64 #[.pointer (some ⟨g, 0, none⟩), .int .i64 n] w fun e w' => e = .returned (.int .i64 (wrap64 (wrap64 (n - a) - b))) ∧ Turned w0 w w' (fun k => k = g) (fun _ => pairR g n (wrap64 (n - a))) := by
 have HB := Aside0.mk hB
 have HS := Aside0.mk (Sep.start hO)
 have hc0 := Sep.c20 HS.out
 have hc1 := Sep.c21 HS.out
 have hf0 := Sep.free HS.out 0
 have hf1 := Sep.free HS.out 1
 clear hB hO
 go_enter Try.func64, Try.ntmps64
 go_wp2
 go_ret
 exact ⟨rfl, Turned.of_sep (mk := fun _ => pairR g n (wrap64 (n - a))) (F' := fun _ => True) ((HS.out.s20 _).s21 _) HB.out (below_set (below_set HB.out HS.out.ge) HS.out.ge)⟩
set_option maxHeartbeats 8000000 in
set_option maxRecDepth 100000 in
theorem back_calls (g : Nat) (a b n : Int) (w0 w : World) (hB : Below w0.heap.size w0 w) (hO : Own w0.heap.size w (pairR g a b)) :
  Calls Try.prog 71 #[.pointer (some ⟨g, 0, none⟩), .int .i64 n] w fun e w' => e = .returned (.int .i64 (wrap64 (a + wrap64 (b + n)))) ∧ Turned w0 w w' (fun k => k = g) (fun _ => pairR g (wrap64 (a + wrap64 (b + n))) (wrap64 (b + n))) := by
 have HB0 := Aside0.mk hB
 have HB := Aside0.mk hB
 have HS := Aside0.mk (Sep.start hO)
 have hc0 := Sep.c20 HS.out
 have hc1 := Sep.c21 HS.out
 have hf0 := Sep.free HS.out 0
 have hf1 := Sep.free HS.out 1
 clear hB hO
 go_enter Try.func71, Try.ntmps71
 go_wp2
 have n0_ := Aside0.mk (below_set (j := 1) (v := .int .i64 (wrap64 (b + n))) HB.out HS.out.ge); have n1_ := Aside0.mk (HS.out.s21 (.int .i64 (wrap64 (b + n)))); clear HB HS; have HB := n0_; have HS := n1_; clear n0_ n1_
 clear hc0 hc1 hf0 hf1
 generalize (w.setCell ⟨g, 1, none⟩ (.int .i64 (wrap64 (b + n)))) = w1 at HB HS ⊢
 refine start_ (n := 12) (S := fun w' => w'.cell? ⟨g, 0, none⟩ = some (.int .i64 a) ∧ w'.cell? ⟨g, 1, none⟩ = some (.int .i64 (wrap64 (b + n)))) (ds := [11]) #[false, false, false, false, false, false, false, false, false, false, false, false] (by kernel_rfl) rfl rfl ⟨Sep.c20 (sep_drew HS.out), Sep.c21 (sep_drew HS.out)⟩ (fun hHeld => ?_)
 have n0_ := Aside0.mk (below_drew HB.out)
 have n1_ := Aside0.mk (sep_drew HS.out)
 clear HB HS
 have HB := n0_
 have HS := n1_
 clear n0_ n1_
 generalize (World.drew w1) = wd_ at HB HS hHeld ⊢
 refine pure_ (i := 0) (N := some 13) (v := ?_) (a' := ?_) #[true, false, false, false, false, false, false, false, false, false, false, false] rfl rfl (by kernel_rfl) (fun _ _ _ h => h) (Or.inl ⟨by rfl, ?_⟩) ?_ ?_
 rotate_left
 ·intro w'
  go_simp
  with_reducible rfl
 rotate_left
 ·simp only [Act.put, List.setIfInBounds_toArray, List.set_cons_zero, List.set_cons_succ, i64_w, i32_w]
  rfl
 refine pure_ (i := 1) (N := some 14) (v := ?_) (a' := ?_) #[true, true, false, false, false, false, false, false, false, false, false, false] rfl rfl (by kernel_rfl) (fun _ _ _ h => h) (Or.inl ⟨by rfl, ?_⟩) ?_ ?_
 rotate_left
 ·intro w'
  go_simp
  with_reducible rfl
 rotate_left
 ·simp only [Act.put, List.setIfInBounds_toArray, List.set_cons_zero, List.set_cons_succ, i64_w, i32_w]
  rfl
 refine pure_ (i := 2) (N := some 15) (v := ?_) (a' := ?_) #[true, true, true, false, false, false, false, false, false, false, false, false] rfl rfl (by kernel_rfl) (fun _ _ _ h => h) (Or.inl ⟨by rfl, ?_⟩) ?_ ?_
 rotate_left
 ·intro w'
  go_simp
  with_reducible rfl
 rotate_left
 ·simp only [Act.put, List.setIfInBounds_toArray, List.set_cons_zero, List.set_cons_succ, i64_w, i32_w]
  rfl
 refine pure_ (i := 4) (N := some 17) (v := ?_) (a' := ?_) #[true, true, true, false, true, false, false, false, false, false, false, false] rfl rfl (by kernel_rfl) (fun _ _ _ h => h) (Or.inl ⟨by rfl, ?_⟩) ?_ ?_
 rotate_left
 ·intro w'
  go_simp
  with_reducible rfl
 rotate_left
 ·simp only [Act.put, List.setIfInBounds_toArray, List.set_cons_zero, List.set_cons_succ, i64_w, i32_w]
  rfl
 refine pure_ (i := 5) (N := some 18) (v := ?_) (a' := ?_) #[true, true, true, false, true, true, false, false, false, false, false, false] rfl rfl (by kernel_rfl) (fun _ _ _ h => h) (Or.inl ⟨by rfl, ?_⟩) ?_ ?_
 rotate_left
 ·intro w'
  go_simp
  with_reducible rfl
 rotate_left
 ·simp only [Act.put, List.setIfInBounds_toArray, List.set_cons_zero, List.set_cons_succ, i64_w, i32_w]
  rfl
 refine pure_ (i := 6) (N := some 19) (v := ?_) (a' := ?_) #[true, true, true, false, true, true, true, false, false, false, false, false] rfl rfl (by kernel_rfl) (fun _ _ _ h => h) (Or.inl ⟨by rfl, ?_⟩) ?_ ?_
 rotate_left
 ·intro w'
  go_simp
  with_reducible rfl
 rotate_left
 ·simp only [Act.put, List.setIfInBounds_toArray, List.set_cons_zero, List.set_cons_succ, i64_w, i32_w]
  rfl
 refine take_ (i := 3) (N := some 16) (v := ?_) (a' := ?_) #[true, true, true, true, true, true, true, false, false, false, false, false] rfl rfl (by kernel_rfl) (fun _ _ _ h => h) (Or.inl ⟨by rfl, ?_⟩) hHeld ?_ ?_
 rotate_left
 ·rintro w' ⟨s0, s1⟩
  go_simp
  with_reducible rfl
 rotate_left
 ·simp only [Act.put, List.setIfInBounds_toArray, List.set_cons_zero, List.set_cons_succ, i64_w, i32_w]
  rfl
 refine take_ (i := 7) (N := some 20) (v := ?_) (a' := ?_) #[true, true, true, true, true, true, true, true, false, false, false, false] rfl rfl (by kernel_rfl) (fun _ _ _ h => h) (Or.inl ⟨by rfl, ?_⟩) hHeld ?_ ?_
 rotate_left
 ·rintro w' ⟨s0, s1⟩
  go_simp
  with_reducible rfl
 rotate_left
 ·simp only [Act.put, List.setIfInBounds_toArray, List.set_cons_zero, List.set_cons_succ, i64_w, i32_w]
  rfl
 refine pure_ (i := 8) (N := some 21) (v := ?_) (a' := ?_) #[true, true, true, true, true, true, true, true, true, false, false, false] rfl rfl (by kernel_rfl) (fun _ _ _ h => h) (Or.inl ⟨by rfl, ?_⟩) ?_ ?_
 rotate_left
 ·intro w'
  go_simp
  with_reducible rfl
 rotate_left
 ·simp only [Act.put, List.setIfInBounds_toArray, List.set_cons_zero, List.set_cons_succ, i64_w, i32_w]
  rfl
 refine pure_ (i := 9) (N := some 22) (v := ?_) (a' := ?_) #[true, true, true, true, true, true, true, true, true, true, false, false] rfl rfl (by kernel_rfl) (fun _ _ _ h => h) (Or.inl ⟨by rfl, ?_⟩) ?_ ?_
 rotate_left
 ·intro w'
  go_simp
  with_reducible rfl
 rotate_left
 ·simp only [Act.put, List.setIfInBounds_toArray, List.set_cons_zero, List.set_cons_succ, i64_w, i32_w]
  rfl
 refine pure_ (i := 10) (N := some 23) (v := ?_) (a' := ?_) #[true, true, true, true, true, true, true, true, true, true, true, false] rfl rfl (by kernel_rfl) (fun _ _ _ h => h) (Or.inl ⟨by rfl, ?_⟩) ?_ ?_
 rotate_left
 ·intro w'
  go_simp
  with_reducible rfl
 rotate_left
 ·simp only [Act.put, List.setIfInBounds_toArray, List.set_cons_zero, List.set_cons_succ, i64_w, i32_w]
  rfl
 refine last_ (i := 11) (N := none) #[true, true, true, true, true, true, true, true, true, true, true, true] rfl rfl (by kernel_rfl) (by decide) (fun K hK => ?_)
 have hc0 := Sep.c20 HS.out
 have hf0 := Sep.free HS.out 0
 refine skip_ (w1 := ?_) (by rfl) rfl ?_ ?_
 rotate_left
 ·go_simp
  rfl
 refine hK.out _ _ ?_
 clear hK K
 refine done_ (by kernel_rfl) ?_
 go_wp2
 go_ret
 exact ⟨rfl, Turned.of_sep (mk := fun _ => pairR g (wrap64 (a + wrap64 (b + n))) (wrap64 (b + n))) (F' := fun _ => True) (HS.out.s20 _) HB0.out (below_set HB.out HS.out.ge)⟩
set_option maxHeartbeats 8000000 in
set_option maxRecDepth 100000 in
theorem seconds_calls (A0 : Option Addr) (c0 : Nat) (l0 : List Int) (w : World) (hr0 : Kd.C (Kd.int .i64) w A0 l0.length l0) (hl : l0.length ≤ 1000000) :
  Calls Try.prog 35 #[.slice A0 l0.length c0] w fun e w' => ∃ v, e = .returned v ∧ Kd.R (Kd.int .i64) 3 w' w.heap.size (fun _ => True) v (secs 0 0 l0) ∧ Below w.heap.size w w' := by
 have HB := Aside0.mk (Below.refl w.heap.size w)
 have HS := Aside0.mk (Sep.nil w.heap.size w)
 have HR := Aside0.mk hr0
 have HL := Aside0.mk hl
 clear hr0 hl
 go_enter Try.func35, Try.ntmps35
 go_wp2_with (first
  | ((with_reducible refine gate_dst (N := 3) rfl ?_); (try (refine gate_guard (by rfl) ?_; dsimp only)); refine box_event ?hg (N := 3) ?hd (cs := #[.int .i64 0, .int .i64 0]) (t := 87) ?hr ?_; (case hd => rfl); (case hg => rfl); (case hr => first | (go_simp; done) | (go_simp; rfl)); intro g hg w1 hbox hb; have n0_ := Aside0.mk (below_step (by repeat (first | exact HB.out | apply below_alloc | apply pw_below_drewN | apply below_drew1)) hb); have n1_ := Aside0.mk (Sep.newbox (by repeat (first | exact HS.out | apply sep_alloc | apply sep_drewN | apply sep_drew)) hb (Nat.le_of_eq hg.symm) (below_size (by repeat (first | exact HB.out | apply below_alloc | apply pw_below_drewN | apply below_drew1))) hbox); clear HB HS; have HB := n0_; have HS := n1_; clear n0_ n1_ hb hbox hg))
 go_loopg [4, 9] l0.length (fun kq v4 v9 w' => ∃ (j : Nat) (a b : Int) (O : List Int) (F : Nat → Prop), v9 = .int .i64 (j : Int) ∧ Aside0 (kq + j = l0.length ∧ O.length = j ∧ O ++ secs a b (l0.drop j) = secs 0 0 l0) ∧ Aside0 (Sep w.heap.size w' [row F (Kd.int .i64) 3 w.heap.size v4 O, pairR g a b]) ∧ Aside0 (Below w.heap.size w w'))
 case atStart => exact ⟨0, 0, 0, [], _, rfl, ⟨by omega, rfl, by simp⟩, ⟨HS.out.nilrow (Kd.int .i64) 3⟩, HB⟩
 case round =>
  clear HS HB
  obtain ⟨j, a, b, O, F, rfl, HI, HS, HB⟩ := hrel
  obtain ⟨A_, c_, e_⟩ := Kd.R_slice (Sep.R HS.out)
  subst e_
  by_cases hlt : j < l0.length
  ·obtain ⟨k1, rfl⟩ : ∃ m, gk = m + 1 := ⟨gk - 1, by have := HI.out; omega⟩
   have c1b : decide ((j : Int) < (l0.length : Int)) = true := decide_eq_true (by omega)
   have c1n : decide (j < l0.length) = true := decide_eq_true hlt
   have hnx : wrap64 ((j : Int) + 1) = ((j + 1 : Nat) : Int) := by have := HL.out; rw [w64 (by omega) (by omega)]; simp
   obtain ⟨ad, e1, hx0⟩ := Kd.at_int HR.out (j : Int) (by omega) (by omega)
   cases e1
   rw [Int.toNat_natCast] at hx0
   replace hx0 := (HB.out.cell (World.block_lt_of_cell? w _ hx0)).trans hx0
   have hdr : l0.drop j = rd l0 (j : Int) :: l0.drop (j + 1) := by
    rw [List.drop_eq_getElem_cons hlt]
    unfold rd
    rw [Int.toNat_natCast, getD_lt _ _ _ hlt]
   obtain ⟨x, hx⟩ : ∃ x, x = rd l0 (j : Int) := ⟨_, rfl⟩
   rw [← hx] at hx0 hdr
   have HDR := Aside0.mk hdr
   have HX := Aside0.mk hnx
   have c4 := eq_true hlt
   have c5 := eq_true (show (j : Int) < (l0.length : Int) by omega)
   have c6 := eq_true (show 0 ≤ (j : Int) by omega)
   clear hnx hlt hdr hx
   go_wp2_with (first
    | (go_at_call 64; (with_reducible refine (next_calls g a b x w _ HB.out HS.out.p2.own).mono ?_); rintro e w6 ⟨rfl, ht⟩; obtain ⟨F_, hs_⟩ := Turned.sep ht (HS.out.p2) rfl; have n0_ := Aside0.mk (Turned.below ht); clear HB HS ht; have HB := n0_; have HS := Aside0.mk hs_; clear n0_ hs_)
    | ((with_reducible refine gate_builtin (b := .append) (xs := #[.tmp 13, .tmp 16]) rfl ?_); (at_builtin); (refine wp_append (Kd.int .i64) (w0 := w) rfl (.tmp 13) (.tmp 16) 54 3 (.int .i64 0) 8 rfl Try.underlying54 info3 rfl (by decide) (by omega) (wrap64 (wrap64 (x - a) - b)) [.int .i64 (wrap64 (wrap64 (x - a) - b))] HS.out.p2 rfl rfl rfl (by repeat (first | exact HB.out | apply below_alloc | apply pw_below_drewN | apply below_drew1)) (by have := HI.out; have := HL.out; omega) ?_); (intro v_ w_ F_ hs_ hb_); (obtain ⟨O1, hy_⟩ : ∃ y_, y_ = O ++ [wrap64 (wrap64 (x - a) - b)] := ⟨_, rfl⟩; rw [← hy_] at hs_; have HO1 := Aside0.mk hy_; clear hy_ HB HS; have HB := Aside0.mk hb_; have HS := Aside0.mk hs_; clear hs_ hb_; obtain ⟨A_, c_, e_⟩ := Kd.R_slice (Sep.R HS.out); subst e_); (skip)))
   go_roundg k1
   case measure => omega
   case rel => exact ⟨j + 1, x, wrap64 (x - a), O1, _, (by first | rfl | rw [HX.out]), ⟨by have := HI.out; omega, by rw [HO1.out, List.length_append, HI.out.2.1]; rfl, by rw [← HI.out.2.2, HO1.out, HDR.out, secs, List.append_assoc]; rfl⟩, HS, HB⟩
  ·have c1b : decide ((j : Int) < (l0.length : Int)) = false := decide_eq_false (by omega)
   have c1n : decide (j < l0.length) = false := decide_eq_false hlt
   have hO : O = secs 0 0 l0 := by
    have := HI.out.2.2
    rw [List.drop_of_length_le (by omega), show secs a b [] = [] from rfl, List.append_nil] at this
    exact this
   have HO := Aside0.mk hO
   clear hlt hO
   go_wp2
   go_ret
   exact ⟨_, rfl, by rw [← HO.out]; exact Kd.R_mono (Sep.R HS.out) (fun _ _ => trivial), HB.out⟩
end Go.Proofs.Ythkpnnbjcendcaa.Sc
namespace Go.Proofs.Ythkpnnbjcendcaa.Sc
theorem fold_calls (n : Int) (w : World) (h : fits64 n) : Calls Try.prog 96 #[.int .i64 n] w fun e w' => e = .returned (.int .u64 (foldN n : Int)) ∧ Below w.heap.size w w' := by
 refine (octs_Fold.calls n _ w (fold_f h)).mono ?_
 rintro e w' ⟨rfl, hd⟩
 exact ⟨rfl, hd.below⟩
theorem putC_ok {m : Nat} {n : Nat} {w : Nat} (hw : w ≤ 64) (hn : n < 2 ^ w) (hm : m + w ≤ 262144) : putC m (n : Int) (w : Int) = 0 := by
 unfold putC
 rw [if_neg (by omega), if_neg, if_neg (by omega)]
 rw [Int.toNat_natCast]
 simp only [Classical.not_not]
 exact_mod_cast hn
theorem putL_ok {L : List Bool} {n : Nat} {w : Nat} (hw : w ≤ 64) (hn : n < 2 ^ w) (hm : L.length + w ≤ 262144) : putL L (n : Int) (w : Int) = L ++ nb n w := by
 unfold putL
 rw [if_pos (putC_ok hw hn hm), Int.toNat_natCast, Int.toNat_natCast]
theorem wid0 (w : World) : (Instr.index 120 (.agg #[.int .i64 0, .int .i64 7, .int .i64 14, .int .i64 32, .int .i64 64]) (.int .i64 0)).run Try.prog w = .ok (.int .i64 0) w := by kernel_rfl
theorem wid1 (w : World) : (Instr.index 120 (.agg #[.int .i64 0, .int .i64 7, .int .i64 14, .int .i64 32, .int .i64 64]) (.int .i64 1)).run Try.prog w = .ok (.int .i64 7) w := by kernel_rfl
theorem wid2 (w : World) : (Instr.index 120 (.agg #[.int .i64 0, .int .i64 7, .int .i64 14, .int .i64 32, .int .i64 64]) (.int .i64 2)).run Try.prog w = .ok (.int .i64 14) w := by kernel_rfl
theorem wid3 (w : World) : (Instr.index 120 (.agg #[.int .i64 0, .int .i64 7, .int .i64 14, .int .i64 32, .int .i64 64]) (.int .i64 3)).run Try.prog w = .ok (.int .i64 32) w := by kernel_rfl
theorem wid4 (w : World) : (Instr.index 120 (.agg #[.int .i64 0, .int .i64 7, .int .i64 14, .int .i64 32, .int .i64 64]) (.int .i64 4)).run Try.prog w = .ok (.int .i64 64) w := by kernel_rfl
def lowU : Nat → Nat → Prop
 | 0, _ => True
 | 1, u => 0 < u
 | 2, u => 128 ≤ u
 | 3, u => 16384 ≤ u
 | _, u => 4294967296 ≤ u
set_option maxHeartbeats 8000000 in
set_option maxRecDepth 100000 in
theorem mark_calls (g : Nat) (F : Nat → Prop) (L : List Bool) (n : Int) (w0 w : World) (hB : Below w0.heap.size w0 w) (hO : Own w0.heap.size w (bitsR w0.heap.size g L F)) (hn : fits64 n) (hl : L.length + 68 ≤ 262144) :
  Calls Try.prog 63 #[.pointer (some ⟨g, 0, none⟩), .int .i64 n] w fun e w' => e = .returned (.tuple #[]) ∧ Turned w0 w w' F (bitsR w0.heap.size g (L ++ markB n)) := by
 have HB0 := Aside0.mk hB
 have HB := Aside0.mk hB
 have HS := Aside0.mk (Sep.start hO)
 have HN := Aside0.mk hn
 have HL := Aside0.mk hl
 have i0 := wid0
 have i1 := wid1
 have i2 := wid2
 have i3 := wid3
 have i4 := wid4
 obtain ⟨u, hu⟩ : ∃ u, u = foldN n := ⟨_, rfl⟩
 have HU := Aside0.mk hu
 have HU64 := Aside0.mk (show u < 2 ^ 64 from hu ▸ foldN_lt hn)
 clear hB hO hn hl hu
 go_enter Try.func63, Try.ntmps63
 go_wp2_with (first
  | (go_at_call 96; (with_reducible refine (fold_calls n _ HN.out).mono ?_); rintro e w1 ⟨rfl, hb⟩; rw [← HU.out]; have n0_ := Aside0.mk (below_step (by repeat (first | exact HB.out | apply below_alloc | apply pw_below_drewN | apply below_drew1)) hb); have n1_ := Aside0.mk (Sep.below (by repeat (first | exact HS.out | apply sep_alloc | apply sep_drewN | apply sep_drew)) hb); clear HB HS; have HB := n0_; have HS := n1_; clear n0_ n1_ hb)
  | (go_at_call 97; (with_reducible refine (steps_widths.calls 0 7 14 32 64 _ rfl).mono ?_); rintro e w2 ⟨rfl, hb⟩; have n0_ := Aside0.mk (below_step (by repeat (first | exact HB.out | apply below_alloc | apply pw_below_drewN | apply below_drew1)) hb); have n1_ := Aside0.mk (Sep.below (by repeat (first | exact HS.out | apply sep_alloc | apply sep_drewN | apply sep_drew)) hb); clear HB HS; have HB := n0_; have HS := n1_; clear n0_ n1_ hb))
 go_loopg [10] 5 (fun kq v10 w' => ∃ (i : Nat), v10 = .int .i64 (i : Int) ∧ Aside0 (kq + i = 5 ∧ i ≤ 4 ∧ lowU i u) ∧ Aside0 (Sep w0.heap.size w' [bitsR w0.heap.size g L F, frameR w0.heap.size w (bitsR w0.heap.size g L F).foot]) ∧ Aside0 (Below w0.heap.size w0 w'))
 case atStart => exact ⟨0, rfl, ⟨by omega, by omega, trivial⟩, HS, HB⟩
 case round =>
  clear HS HB
  obtain ⟨i, rfl, HI, HS, HB⟩ := hrel
  obtain ⟨k1, rfl⟩ : ∃ m, gk = m + 1 := ⟨gk - 1, by have := HI.out; omega⟩
  have hi := HI.out.2.1
  rcases (by omega : i = 0 ∨ i = 1 ∨ i = 2 ∨ i = 3 ∨ i = 4) with rfl | rfl | rfl | rfl | rfl
  ·clear hi
   by_cases hz0 : u = 0
   ·have hz := Aside0.mk hz0
    have hb1 : ((u : Int) != 0) = false := by rw [hz0]; rfl
    have hb2 : ((u : Int) / 1 != 0) = false := by rw [hz0]; rfl
    clear hz0
    have hp1 : putL L 0 1 = L ++ nb 0 1 := putL_ok (n := 0) (w := 1) (by omega) (by decide) (by have := HL.out; omega)
    have hp2 : putL (L ++ nb 0 1) (u : Int) 0 = L ++ markB n := by
     have hu0 : u = 0 := hz.out
     have e : putL (L ++ nb 0 1) (u : Int) 0 = (L ++ nb 0 1) ++ nb u 0 := putL_ok (n := u) (w := 0) (by omega) (by omega) (by rw [List.length_append, nb_length]; have := HL.out; omega)
     rw [e]
     unfold markB
     rw [← HU.out, hu0]
     simp [nb]
    have HP1 := Aside0.mk hp1
    have HP2 := Aside0.mk hp2
    clear hp1 hp2
    go_wp2_with (first
     | (go_at_call 22; (with_reducible refine (put_calls g _ _ _ _ w0 _ HB.out HS.out.own ?ha_ ?hb_).mono ?_); (case ha_ => have := HU64.out; constructor <;> omega); (case hb_ => constructor <;> omega); rintro e w6 ⟨rfl, ht⟩; obtain ⟨F_, hs_⟩ := Turned.sep ht (HS.out) rfl; have n0_ := Aside0.mk (Turned.below ht); clear HB HS ht; have HB := n0_; have HS := Aside0.mk hs_; clear n0_ hs_; (first | rw [HP1.out] at HS | rw [HP2.out] at HS)))
    (first | go_end0 | ((try simp only [Exit.inBlock, Exit.then]); refine bodyPost_ret (results_none rfl _ _ _) rfl ?_))
    exact ⟨rfl, Turned.of_sep HS.out HB0.out HB.out⟩
   ·have hz := Aside0.mk hz0
    have hb1 : ((u : Int) != 0) = true := by rw [bne_iff_ne]; omega
    have hb2 : ((u : Int) / 1 != 0) = true := by rw [bne_iff_ne]; omega
    clear hz0
    go_wp2
    go_roundg k1
    case measure => omega
    case rel => exact ⟨1, (by first | rfl | simp), ⟨by have := HI.out; omega, by omega, (show 0 < u from by have := hz.out; omega)⟩, HS, HB⟩
  ·clear hi
   by_cases hz0 : u < 128
   ·have hz := Aside0.mk hz0
    have hb1 : ((u : Int) / 128 != 0) = false := by rw [bne_eq_false_iff_eq]; omega
    clear hz0
    have hp1 : putL L 2 2 = L ++ nb 2 2 := putL_ok (n := 2) (w := 2) (by omega) (by decide) (by have := HL.out; omega)
    have hp2 : putL (L ++ nb 2 2) (u : Int) 7 = L ++ markB n := by
     have e : putL (L ++ nb 2 2) (u : Int) 7 = (L ++ nb 2 2) ++ nb u 7 := putL_ok (n := u) (w := 7) (by omega) (by have := hz.out; omega) (by rw [List.length_append, nb_length]; have := HL.out; omega)
     have hlow : 0 < u := HI.out.2.2
     rw [e, List.append_assoc]
     unfold markB
     dsimp only
     rw [← HU.out, if_neg (by omega), if_pos (by have := hz.out; omega)]
    have HP1 := Aside0.mk hp1
    have HP2 := Aside0.mk hp2
    clear hp1 hp2
    go_wp2_with (first
     | (go_at_call 22; (with_reducible refine (put_calls g _ _ _ _ w0 _ HB.out HS.out.own ?ha_ ?hb_).mono ?_); (case ha_ => have := HU64.out; constructor <;> omega); (case hb_ => constructor <;> omega); rintro e w6 ⟨rfl, ht⟩; obtain ⟨F_, hs_⟩ := Turned.sep ht (HS.out) rfl; have n0_ := Aside0.mk (Turned.below ht); clear HB HS ht; have HB := n0_; have HS := Aside0.mk hs_; clear n0_ hs_; (first | rw [HP1.out] at HS | rw [HP2.out] at HS)))
    (first | go_end0 | ((try simp only [Exit.inBlock, Exit.then]); refine bodyPost_ret (results_none rfl _ _ _) rfl ?_))
    exact ⟨rfl, Turned.of_sep HS.out HB0.out HB.out⟩
   ·have hz := Aside0.mk hz0
    have hb1 : ((u : Int) / 128 != 0) = true := by rw [bne_iff_ne]; omega
    clear hz0
    go_wp2
    go_roundg k1
    case measure => omega
    case rel => exact ⟨2, (by first | rfl | simp), ⟨by have := HI.out; omega, by omega, (show 128 ≤ u from by have := hz.out; omega)⟩, HS, HB⟩
  ·clear hi
   by_cases hz0 : u < 16384
   ·have hz := Aside0.mk hz0
    have hb1 : ((u : Int) / 16384 != 0) = false := by rw [bne_eq_false_iff_eq]; omega
    clear hz0
    have hp1 : putL L 6 3 = L ++ nb 6 3 := putL_ok (n := 6) (w := 3) (by omega) (by decide) (by have := HL.out; omega)
    have hp2 : putL (L ++ nb 6 3) (u : Int) 14 = L ++ markB n := by
     have e : putL (L ++ nb 6 3) (u : Int) 14 = (L ++ nb 6 3) ++ nb u 14 := putL_ok (n := u) (w := 14) (by omega) (by have := hz.out; omega) (by rw [List.length_append, nb_length]; have := HL.out; omega)
     have hlow : 128 ≤ u := HI.out.2.2
     rw [e, List.append_assoc]
     unfold markB
     dsimp only
     rw [← HU.out, if_neg (by omega), if_neg (by omega), if_pos (by have := hz.out; omega)]
    have HP1 := Aside0.mk hp1
    have HP2 := Aside0.mk hp2
    clear hp1 hp2
    go_wp2_with (first
     | (go_at_call 22; (with_reducible refine (put_calls g _ _ _ _ w0 _ HB.out HS.out.own ?ha_ ?hb_).mono ?_); (case ha_ => have := HU64.out; constructor <;> omega); (case hb_ => constructor <;> omega); rintro e w6 ⟨rfl, ht⟩; obtain ⟨F_, hs_⟩ := Turned.sep ht (HS.out) rfl; have n0_ := Aside0.mk (Turned.below ht); clear HB HS ht; have HB := n0_; have HS := Aside0.mk hs_; clear n0_ hs_; (first | rw [HP1.out] at HS | rw [HP2.out] at HS)))
    (first | go_end0 | ((try simp only [Exit.inBlock, Exit.then]); refine bodyPost_ret (results_none rfl _ _ _) rfl ?_))
    exact ⟨rfl, Turned.of_sep HS.out HB0.out HB.out⟩
   ·have hz := Aside0.mk hz0
    have hb1 : ((u : Int) / 16384 != 0) = true := by rw [bne_iff_ne]; omega
    clear hz0
    go_wp2
    go_roundg k1
    case measure => omega
    case rel => exact ⟨3, (by first | rfl | simp), ⟨by have := HI.out; omega, by omega, (show 16384 ≤ u from by have := hz.out; omega)⟩, HS, HB⟩
  ·clear hi
   by_cases hz0 : u < 4294967296
   ·have hz := Aside0.mk hz0
    have hb1 : ((u : Int) / 4294967296 != 0) = false := by rw [bne_eq_false_iff_eq]; omega
    clear hz0
    have hp1 : putL L 14 4 = L ++ nb 14 4 := putL_ok (n := 14) (w := 4) (by omega) (by decide) (by have := HL.out; omega)
    have hp2 : putL (L ++ nb 14 4) (u : Int) 32 = L ++ markB n := by
     have e : putL (L ++ nb 14 4) (u : Int) 32 = (L ++ nb 14 4) ++ nb u 32 := putL_ok (n := u) (w := 32) (by omega) (by have := hz.out; omega) (by rw [List.length_append, nb_length]; have := HL.out; omega)
     have hlow : 16384 ≤ u := HI.out.2.2
     rw [e, List.append_assoc]
     unfold markB
     dsimp only
     rw [← HU.out, if_neg (by omega), if_neg (by omega), if_neg (by omega), if_pos (by have := hz.out; omega)]
    have HP1 := Aside0.mk hp1
    have HP2 := Aside0.mk hp2
    clear hp1 hp2
    go_wp2_with (first
     | (go_at_call 22; (with_reducible refine (put_calls g _ _ _ _ w0 _ HB.out HS.out.own ?ha_ ?hb_).mono ?_); (case ha_ => have := HU64.out; constructor <;> omega); (case hb_ => constructor <;> omega); rintro e w6 ⟨rfl, ht⟩; obtain ⟨F_, hs_⟩ := Turned.sep ht (HS.out) rfl; have n0_ := Aside0.mk (Turned.below ht); clear HB HS ht; have HB := n0_; have HS := Aside0.mk hs_; clear n0_ hs_; (first | rw [HP1.out] at HS | rw [HP2.out] at HS)))
    (first | go_end0 | ((try simp only [Exit.inBlock, Exit.then]); refine bodyPost_ret (results_none rfl _ _ _) rfl ?_))
    exact ⟨rfl, Turned.of_sep HS.out HB0.out HB.out⟩
   ·have hz := Aside0.mk hz0
    have hb1 : ((u : Int) / 4294967296 != 0) = true := by rw [bne_iff_ne]; omega
    clear hz0
    go_wp2
    go_roundg k1
    case measure => omega
    case rel => exact ⟨4, (by first | rfl | simp), ⟨by have := HI.out; omega, by omega, (show 4294967296 ≤ u from by have := hz.out; omega)⟩, HS, HB⟩
  ·have hp1 : putL L 15 4 = L ++ nb 15 4 := putL_ok (n := 15) (w := 4) (by omega) (by decide) (by have := HL.out; omega)
   have hp2 : putL (L ++ nb 15 4) (u : Int) 64 = L ++ markB n := by
    have e : putL (L ++ nb 15 4) (u : Int) 64 = (L ++ nb 15 4) ++ nb u 64 := putL_ok (n := u) (w := 64) (by omega) (by exact HU64.out) (by rw [List.length_append, nb_length]; have := HL.out; omega)
    have hlow : 4294967296 ≤ u := HI.out.2.2
    rw [e, List.append_assoc]
    unfold markB
    dsimp only
    rw [← HU.out, if_neg (by omega), if_neg (by omega), if_neg (by omega), if_neg (by omega)]
   clear hi
   have HP1 := Aside0.mk hp1
   have HP2 := Aside0.mk hp2
   clear hp1 hp2
   go_wp2_with (first
    | (go_at_call 22; (with_reducible refine (put_calls g _ _ _ _ w0 _ HB.out HS.out.own ?ha_ ?hb_).mono ?_); (case ha_ => have := HU64.out; constructor <;> omega); (case hb_ => constructor <;> omega); rintro e w6 ⟨rfl, ht⟩; obtain ⟨F_, hs_⟩ := Turned.sep ht (HS.out) rfl; have n0_ := Aside0.mk (Turned.below ht); clear HB HS ht; have HB := n0_; have HS := Aside0.mk hs_; clear n0_ hs_; (first | rw [HP1.out] at HS | rw [HP2.out] at HS)))
   (first | go_end0 | ((try simp only [Exit.inBlock, Exit.then]); refine bodyPost_ret (results_none rfl _ _ _) rfl ?_))
   exact ⟨rfl, Turned.of_sep HS.out HB0.out HB.out⟩
end Go.Proofs.Ythkpnnbjcendcaa.Sc
namespace Go.Proofs.Ythkpnnbjcendcaa.Pure
theorem or_all : ∀ x, x < 256 → x ||| 128 = x % 128 + 128 := by decide +kernel
theorem or_128 (n : Nat) : Go.bits .or .u8 ((n : Int) % 256) 128 = ((n % 128 + 128 : Nat) : Int) := by
 have h := (bits_nat .u8 8 (by decide) wraps_u8 (n % 256) 128 (Nat.mod_lt _ (by decide)) (by decide)).2
 rw [show (n : Int) % 256 = ((n % 256 : Nat) : Int) by omega]
 rw [show (128 : Int) = ((128 : Nat) : Int) from rfl, h, or_all _ (Nat.mod_lt _ (by decide))]
 omega
theorem varint_small {n : Nat} (h : n < 128) : varint n = [(n : Int)] := by rw [varint, dif_pos h]
theorem varint_big {n : Nat} (h : ¬ n < 128) : varint n = ((n % 128 + 128 : Nat) : Int) :: varint (n / 128) := by rw [varint, dif_neg h]
end Go.Proofs.Ythkpnnbjcendcaa.Pure
namespace Go.Proofs.Ythkpnnbjcendcaa.Sc
set_option maxHeartbeats 8000000 in
set_option maxRecDepth 100000 in
theorem oput_calls (A0 : Option Addr) (c0 : Nat) (b : List Int) (n : Nat) (w : World) (hr0 : Kd.C (Kd.int .u8) w A0 b.length b) (hl : b.length ≤ 100000000) (hn : n < 2 ^ 64) :
  Calls Try.prog 65 #[.slice A0 b.length c0, .int .u64 (n : Int)] w fun e w' => ∃ v, e = .returned v ∧ Kd.R (Kd.int .u8) 5 w' w.heap.size (fun _ => True) v (b ++ varint n) ∧ Below w.heap.size w w' := by
 have HB := Aside0.mk (Below.refl w.heap.size w)
 have HS := Aside0.mk (Sep.nil w.heap.size w)
 have HR := Aside0.mk hr0
 have HL := Aside0.mk hl
 have HN := Aside0.mk hn
 obtain ⟨m, hm⟩ : ∃ m : Nat, m = b.length + 10 := ⟨_, rfl⟩
 have hw : wrap64 ((b.length : Int) + 10) = (m : Int) := by rw [w64 (by omega) (by omega)]; omega
 have HM := Aside0.mk hm
 clear hr0 hl hn hm
 go_enter Try.func65, Try.ntmps65
 go_wp2_with (first
  | ((with_reducible refine gate_dst (N := 9) rfl ?_); (try (refine gate_guard (by rfl) ?_; dsimp only)); (refine wp_makecap (Kd.int .u8) (w0 := w) rfl (N := 9) rfl 24 5 (.const (.int .i64 0)) (.tmp 8) rfl (m) Try.underlying24 (.int .u8 0) 1 info5 rfl (by decide) (by omega) (by have := HM.out; have := HL.out; omega) (by repeat (first | exact HS.out | apply sep_alloc | apply sep_drewN | apply sep_drew)) (by repeat (first | exact HB.out | apply below_alloc | apply pw_below_drewN | apply below_drew1)) ?hx_ ?hy_ ?_; (case hx_ => first | rfl | (go_simp; done)); (case hy_ => first | rfl | (go_simp; done))); intro A_ c_ w_ F_ hs_ hb_; clear HB HS; have HB := Aside0.mk hb_; have HS := Aside0.mk hs_; clear hs_ hb_; (skip))
  | ((with_reducible refine gate_builtin (b := .append) (xs := #[.tmp 9, .tmp 10]) rfl ?_); (refine wp_append_row (Kd.int .u8) (w0 := w) rfl (.tmp 9) (.tmp 10) 24 5 (.int .u8 0) 1 rfl Try.underlying24 info5 rfl (by decide) (by omega) b _ _ _ HS.out (Kd.C_below HR.out HB.out) (fun _ _ h => h) (by repeat (first | exact HB.out | apply below_alloc | apply pw_below_drewN | apply below_drew1)) (by have := HL.out; simp; omega) rfl rfl ?_); (intro v_ w_ F_ hs_ hb_); (obtain ⟨O0, hy_⟩ : ∃ y_, y_ = ([] : List Int) ++ b := ⟨_, rfl⟩; rw [← hy_] at hs_; have HO0 := Aside0.mk hy_; clear hy_ HB HS; have HB := Aside0.mk hb_; have HS := Aside0.mk hs_; clear hs_ hb_; obtain ⟨A_, c_, e_⟩ := Kd.R_slice (Sep.R HS.out); subst e_); (skip)))
 go_loopg [1, 5] 10 (fun kq v1 v5 w' => ∃ (x : Nat) (O : List Int) (F : Nat → Prop), v1 = .int .u64 (x : Int) ∧ Aside0 (x < 128 ^ kq ∧ O.length + kq = b.length + 10 ∧ O ++ varint x = b ++ varint n) ∧ Aside0 (Sep w.heap.size w' [row F (Kd.int .u8) 5 w.heap.size v5 O]) ∧ Aside0 (Below w.heap.size w w'))
 case atStart => exact ⟨n, O0, _, rfl, ⟨Nat.lt_of_lt_of_le HN.out (by decide), by rw [HO0.out]; simp, by rw [HO0.out]; simp⟩, HS, HB⟩
 case round =>
  clear HS HB
  obtain ⟨x, O, F, rfl, HI, HS, HB⟩ := hrel
  obtain ⟨A_, c_, e_⟩ := Kd.R_slice (Sep.R HS.out)
  subst e_
  have HOL := Aside0.mk (show O.length + 1 ≤ 140737488355328 by have := HI.out; have := HL.out; omega)
  by_cases hx : x < 128
  ·have hb1 : decide (128 ≤ (x : Int)) = false := decide_eq_false (by omega)
   have hb2 : (x : Int) % 256 = (x : Int) := by omega
   have HX := Aside0.mk hx
   clear hx
   go_wp2_with (first
    | ((with_reducible refine gate_builtin (b := .append) (xs := #[.tmp 22, .tmp 25]) rfl ?_); (at_builtin); (refine wp_append (Kd.int .u8) (w0 := w) rfl (.tmp 22) (.tmp 25) 24 5 (.int .u8 0) 1 rfl Try.underlying24 info5 rfl (by decide) (by omega) ((x : Int)) [.int .u8 (x : Int)] HS.out rfl rfl rfl (by repeat (first | exact HB.out | apply below_alloc | apply pw_below_drewN | apply below_drew1)) (by have := HOL.out; omega) ?_); (intro v_ w_ F_ hs_ hb_); (obtain ⟨O1, hy_⟩ : ∃ y_, y_ = O ++ [(x : Int)] := ⟨_, rfl⟩; rw [← hy_] at hs_; have HO1 := Aside0.mk hy_; clear hy_ HB HS; have HB := Aside0.mk hb_; have HS := Aside0.mk hs_; clear hs_ hb_; obtain ⟨A_, c_, e_⟩ := Kd.R_slice (Sep.R HS.out); subst e_); (skip)))
   go_ret
   refine ⟨_, rfl, ?_, HB.out⟩
   have := HI.out.2.2
   rw [varint_small HX.out, ← HO1.out] at this
   rw [← this]
   exact Kd.R_mono (Sep.R HS.out) (fun _ _ => trivial)
  ·have hk : gk ≠ 0 := by rintro rfl; have := HI.out.1; simp at this; omega
   obtain ⟨k1, rfl⟩ : ∃ m, gk = m + 1 := ⟨gk - 1, by omega⟩
   have hb1 : decide (128 ≤ (x : Int)) = true := decide_eq_true (by omega)
   have hor := or_128 x
   obtain ⟨y, hy⟩ : ∃ y : Int, y = ((x % 128 + 128 : Nat) : Int) := ⟨_, rfl⟩
   rw [← hy] at hor
   have HY := Aside0.mk hy
   have HX := Aside0.mk hx
   clear hx hk hy
   go_wp2_with (first
    | ((with_reducible refine gate_builtin (b := .append) (xs := #[.tmp 16, .tmp 20]) rfl ?_); (at_builtin); (refine wp_append (Kd.int .u8) (w0 := w) rfl (.tmp 16) (.tmp 20) 24 5 (.int .u8 0) 1 rfl Try.underlying24 info5 rfl (by decide) (by omega) (y) [.int .u8 y] HS.out rfl rfl rfl (by repeat (first | exact HB.out | apply below_alloc | apply pw_below_drewN | apply below_drew1)) (by have := HOL.out; omega) ?_); (intro v_ w_ F_ hs_ hb_); (obtain ⟨O1, hy_⟩ : ∃ y_, y_ = O ++ [y] := ⟨_, rfl⟩; rw [← hy_] at hs_; have HO1 := Aside0.mk hy_; clear hy_ HB HS; have HB := Aside0.mk hb_; have HS := Aside0.mk hs_; clear hs_ hb_; obtain ⟨A_, c_, e_⟩ := Kd.R_slice (Sep.R HS.out); subst e_); (skip)))
   go_roundg k1
   case measure => omega
   case rel => exact ⟨x / 128, O1, _, (by first | rfl | simp), ⟨by have := HI.out.1; rw [Nat.pow_succ] at this; exact Nat.div_lt_of_lt_mul (by omega), by rw [HO1.out, List.length_append, List.length_singleton]; have := HI.out; omega, by rw [← HI.out.2.2, HO1.out, varint_big HX.out, HY.out, List.append_assoc]; rfl⟩, HS, HB⟩
theorem oput_nil (n : Nat) (w : World) (hn : n < 2 ^ 64) :
  Calls Try.prog 65 #[.slice none 0 0, .int .u64 (n : Int)] w fun e w' => ∃ v, e = .returned v ∧ Kd.R (Kd.int .u8) 5 w' w.heap.size (fun _ => True) v (varint n) ∧ Below w.heap.size w w' :=
 oput_calls none 0 [] n w (Kd.C_nil _ _) (by decide) hn
theorem varint_le (k : Nat) : ∀ n : Nat, n < 128 ^ (k + 1) → 1 ≤ (varint n).length ∧ (varint n).length ≤ k + 1 := by
 induction k with
 | zero =>
  intro n h
  rw [varint_small (by simpa using h)]
  simp
 | succ k ih =>
  intro n h
  by_cases hs : n < 128
  ·rw [varint_small hs]; simp
  ·rw [varint_big hs]
   have := ih (n / 128) (by rw [Nat.pow_succ] at h; exact Nat.div_lt_of_lt_mul (by omega))
   simp only [List.length_cons]
   omega
end Go.Proofs.Ythkpnnbjcendcaa.Sc
end
section
open Go.RowKit Go.Proofs.Ythkpnnbjcendcaa.X Go.Proofs.Ythkpnnbjcendcaa.Pl Go.Proofs.YthkpnnbjcendcaaW.PrintWords Go.Proofs.YthkpnnbjcendcaaW.PrintLast Go.Proofs.YthkpnnbjcendcaaW.PrintMore
namespace Go.Proofs.Ythkpnnbjcendcaa.Pure
theorem less_f (a b : Int) : marigraphref04_less.f a b = some (wrap64 (a - b)) := by
 unfold marigraphref04_less.f
 rw [u64_wrap, u64_wrap, u64_wrap]
 congr 1
 unfold wrap64
 omega
theorem more_f (a b : Int) : marigraphref04_more.f a b = some (wrap64 (a + b)) := by
 unfold marigraphref04_more.f
 rw [u64_wrap, u64_wrap, u64_wrap]
 congr 1
 unfold wrap64
 omega
theorem drop_rd {l : List Int} {i : Nat} (h : i < l.length) : l.drop i = rd l (i : Int) :: l.drop (i + 1) := by
 rw [List.drop_eq_getElem_cons h]
 unfold rd
 rw [Int.toNat_natCast, getD_lt _ _ _ h]
theorem ref_secs_from (l : List Int) (hl : l.length ≤ 1000000) (d : Nat) : ∀ (j : Nat) (a b : Int) (O : List Int), l.length - j = d → j ≤ l.length → O.length = j →
  Ev (fun k => marigraphref04_Seconds.l0 k l O a b (j : Int)) (O ++ secs a b (l.drop j)) := by
 induction d with
 | zero =>
  intro j a b O hd hj hO
  refine ev_succ (fun k => by rw [marigraphref04_Seconds.l0]) (ev_neg (by omega) (ev_eq (Ev.now _) ?_))
  rw [List.drop_of_length_le (by omega), show secs a b [] = [] from rfl, List.append_nil]
 | succ d ih =>
  intro j a b O hd hj hO
  have hnx : wrap64 ((j : Int) + 1) = ((j + 1 : Nat) : Int) := by rw [w64 (by omega) (by omega)]; simp
  refine ev_succ (fun k => by rw [marigraphref04_Seconds.l0]) (ev_pos (by omega) (ev_pos (by omega) ?_))
  refine ev_const (less_f _ _) (ev_const (less_f _ _) (ev_pos (by omega) ?_))
  rw [hnx]
  refine ev_eq (ih (j + 1) _ _ _ (by omega) (by omega) (by rw [List.length_append, hO]; rfl)) ?_
  rw [drop_rd (show j < l.length by omega), secs, List.append_assoc]
  rfl
theorem ref_secs_ev (l : List Int) (hl : l.length ≤ 1000000) : Ev (fun k => marigraphref04_Seconds.f k l) (secs 0 0 l) := by
 unfold marigraphref04_Seconds.f
 exact ref_secs_from l hl l.length 0 0 0 [] (by omega) (by omega) rfl
theorem ref_frs_from (l : List Int) (hl : l.length ≤ 1000000) (d : Nat) : ∀ (j : Nat) (a b : Int) (O : List Int), l.length - j = d → j ≤ l.length → O.length = j →
  Ev (fun k => marigraphref04_Firsts.l0 k l O a b (j : Int)) (O ++ frs a b (l.drop j)) := by
 induction d with
 | zero =>
  intro j a b O hd hj hO
  refine ev_succ (fun k => by rw [marigraphref04_Firsts.l0]) (ev_neg (by omega) (ev_eq (Ev.now _) ?_))
  rw [List.drop_of_length_le (by omega), show frs a b [] = [] from rfl, List.append_nil]
 | succ d ih =>
  intro j a b O hd hj hO
  have hnx : wrap64 ((j : Int) + 1) = ((j + 1 : Nat) : Int) := by rw [w64 (by omega) (by omega)]; simp
  refine ev_succ (fun k => by rw [marigraphref04_Firsts.l0]) (ev_pos (by omega) (ev_pos (by omega) ?_))
  refine ev_const (more_f _ _) (ev_const (more_f _ _) (ev_pos (by omega) ?_))
  rw [hnx]
  refine ev_eq (ih (j + 1) _ _ _ (by omega) (by omega) (by rw [List.length_append, hO]; rfl)) ?_
  rw [drop_rd (show j < l.length by omega), frs, List.append_assoc]
  rfl
theorem ref_frs_ev (l : List Int) (hl : l.length ≤ 1000000) : Ev (fun k => marigraphref04_Firsts.f k l) (frs 0 0 l) := by
 unfold marigraphref04_Firsts.f
 exact ref_frs_from l hl l.length 0 0 0 [] (by omega) (by omega) rfl
end Go.Proofs.Ythkpnnbjcendcaa.Pure
end
section
open Go.RowKit Go.Proofs.Ythkpnnbjcendcaa.X Go.Proofs.Ythkpnnbjcendcaa.Pl Go.Proofs.Ythkpnnbjcendcaa.Sp Go.Proofs.Ythkpnnbjcendcaa.Pure Go.Proofs.YthkpnnbjcendcaaW.PrintWords Go.Proofs.YthkpnnbjcendcaaW.PrintLast Go.Proofs.YthkpnnbjcendcaaW.PrintMore
namespace Go.Proofs.Ythkpnnbjcendcaa.Sc
theorem reffold_calls (n : Int) (w : World) (h : fits64 n) : Calls Try.prog 98 #[.int .i64 n] w fun e w' => e = .returned (.int .u64 (foldN n : Int)) ∧ Below w.heap.size w w' := by
 refine (marigraphref01_Fold.calls n _ w (ref_fold_f h)).mono ?_
 rintro e w' ⟨rfl, hd⟩
 exact ⟨rfl, hd.below⟩
set_option maxHeartbeats 8000000 in
set_option maxRecDepth 100000 in
theorem refmark_calls (g : Nat) (F : Nat → Prop) (L : List Bool) (n : Int) (w0 w : World) (hB : Below w0.heap.size w0 w) (hO : Own w0.heap.size w (refR w0.heap.size g L F)) (hn : fits64 n) (hl : L.length + 68 ≤ 262144) :
  Calls Try.prog 67 #[.pointer (some ⟨g, 0, none⟩), .int .i64 n] w fun e w' => e = .returned (.tuple #[]) ∧ Turned w0 w w' F (refR w0.heap.size g (L ++ markB n)) := by
 have HB0 := Aside0.mk hB
 have HB := Aside0.mk hB
 have HS := Aside0.mk (Sep.start hO)
 have HN := Aside0.mk hn
 have HL := Aside0.mk hl
 obtain ⟨u, hu⟩ : ∃ u, u = foldN n := ⟨_, rfl⟩
 have HU := Aside0.mk hu
 have HU64 := Aside0.mk (show u < 2 ^ 64 from hu ▸ foldN_lt hn)
 clear hB hO hn hl hu
 by_cases hz0 : u < 1
 ·have hb0 : ((u : Int) == 0) = true := by rw [beq_iff_eq]; omega
  have hp1 : putL L 0 1 = L ++ markB n := by
   have e : putL L 0 1 = L ++ nb 0 1 := putL_ok (n := 0) (w := 1) (by omega) (by decide) (by have := HL.out; omega)
   rw [e]
   unfold markB
   dsimp only
   rw [← HU.out, if_pos (by omega)]
   rfl
  have HP1 := Aside0.mk hp1
  clear hp1 hz0
  go_enter Try.func67, Try.ntmps67
  go_wp2_with (first
   | (go_at_call 98; (with_reducible refine (reffold_calls n _ HN.out).mono ?_); rintro e w1 ⟨rfl, hb⟩; rw [← HU.out]; have n0_ := Aside0.mk (below_step (by repeat (first | exact HB.out | apply below_alloc | apply pw_below_drewN | apply below_drew1)) hb); have n1_ := Aside0.mk (Sep.below (by repeat (first | exact HS.out | apply sep_alloc | apply sep_drewN | apply sep_drew)) hb); clear HB HS; have HB := n0_; have HS := n1_; clear n0_ n1_ hb)
   | (go_at_call 23; (with_reducible refine (refput_calls g _ _ _ _ w0 _ HB.out HS.out.own ?ha_ ?hb_ ?hc_).mono ?_); (case ha_ => have := HU64.out; constructor <;> omega); (case hb_ => constructor <;> omega); (case hc_ => (try rw [List.length_append, nb_length]); have := HL.out; omega); rintro e w6 ⟨rfl, ht⟩; obtain ⟨F_, hs_⟩ := Turned.sep ht (HS.out) rfl; have n0_ := Aside0.mk (Turned.below ht); clear HB HS ht; have HB := n0_; have HS := Aside0.mk hs_; clear n0_ hs_; (first | rw [HP1.out] at HS)))
  (first | go_end0 | ((try simp only [Exit.inBlock, Exit.then]); refine bodyPost_ret (results_none rfl _ _ _) rfl ?_))
  exact ⟨rfl, Turned.of_sep HS.out HB0.out HB.out⟩
 by_cases hz1 : u < 128
 ·have hb0 : ((u : Int) == 0) = false := by rw [beq_eq_false_iff_ne]; omega
  have hb1 : decide ((u : Int) < 128) = true := decide_eq_true (by omega)
  have hp1 : putL L 2 2 = L ++ nb 2 2 := putL_ok (n := 2) (w := 2) (by omega) (by decide) (by have := HL.out; omega)
  have hp2 : putL (L ++ nb 2 2) (u : Int) 7 = L ++ markB n := by
   have e : putL (L ++ nb 2 2) (u : Int) 7 = (L ++ nb 2 2) ++ nb u 7 := putL_ok (n := u) (w := 7) (by omega) (by omega) (by rw [List.length_append, nb_length]; have := HL.out; omega)
   rw [e, List.append_assoc]
   unfold markB
   dsimp only
   rw [← HU.out, if_neg (by omega), if_pos (by omega)]
  have HP1 := Aside0.mk hp1
  have HP2 := Aside0.mk hp2
  clear hp1 hp2 hz0 hz1
  go_enter Try.func67, Try.ntmps67
  go_wp2_with (first
   | (go_at_call 98; (with_reducible refine (reffold_calls n _ HN.out).mono ?_); rintro e w1 ⟨rfl, hb⟩; rw [← HU.out]; have n0_ := Aside0.mk (below_step (by repeat (first | exact HB.out | apply below_alloc | apply pw_below_drewN | apply below_drew1)) hb); have n1_ := Aside0.mk (Sep.below (by repeat (first | exact HS.out | apply sep_alloc | apply sep_drewN | apply sep_drew)) hb); clear HB HS; have HB := n0_; have HS := n1_; clear n0_ n1_ hb)
   | (go_at_call 23; (with_reducible refine (refput_calls g _ _ _ _ w0 _ HB.out HS.out.own ?ha_ ?hb_ ?hc_).mono ?_); (case ha_ => have := HU64.out; constructor <;> omega); (case hb_ => constructor <;> omega); (case hc_ => (try rw [List.length_append, nb_length]); have := HL.out; omega); rintro e w6 ⟨rfl, ht⟩; obtain ⟨F_, hs_⟩ := Turned.sep ht (HS.out) rfl; have n0_ := Aside0.mk (Turned.below ht); clear HB HS ht; have HB := n0_; have HS := Aside0.mk hs_; clear n0_ hs_; (first | rw [HP1.out] at HS | rw [HP2.out] at HS)))
  (first | go_end0 | ((try simp only [Exit.inBlock, Exit.then]); refine bodyPost_ret (results_none rfl _ _ _) rfl ?_))
  exact ⟨rfl, Turned.of_sep HS.out HB0.out HB.out⟩
 by_cases hz2 : u < 16384
 ·have hb0 : ((u : Int) == 0) = false := by rw [beq_eq_false_iff_ne]; omega
  have hb1 : decide ((u : Int) < 128) = false := decide_eq_false (by omega)
  have hb2 : decide ((u : Int) < 16384) = true := decide_eq_true (by omega)
  have hp1 : putL L 6 3 = L ++ nb 6 3 := putL_ok (n := 6) (w := 3) (by omega) (by decide) (by have := HL.out; omega)
  have hp2 : putL (L ++ nb 6 3) (u : Int) 14 = L ++ markB n := by
   have e : putL (L ++ nb 6 3) (u : Int) 14 = (L ++ nb 6 3) ++ nb u 14 := putL_ok (n := u) (w := 14) (by omega) (by omega) (by rw [List.length_append, nb_length]; have := HL.out; omega)
   rw [e, List.append_assoc]
   unfold markB
   dsimp only
   rw [← HU.out, if_neg (by omega), if_neg (by omega), if_pos (by omega)]
  have HP1 := Aside0.mk hp1
  have HP2 := Aside0.mk hp2
  clear hp1 hp2 hz0 hz1 hz2
  go_enter Try.func67, Try.ntmps67
  go_wp2_with (first
   | (go_at_call 98; (with_reducible refine (reffold_calls n _ HN.out).mono ?_); rintro e w1 ⟨rfl, hb⟩; rw [← HU.out]; have n0_ := Aside0.mk (below_step (by repeat (first | exact HB.out | apply below_alloc | apply pw_below_drewN | apply below_drew1)) hb); have n1_ := Aside0.mk (Sep.below (by repeat (first | exact HS.out | apply sep_alloc | apply sep_drewN | apply sep_drew)) hb); clear HB HS; have HB := n0_; have HS := n1_; clear n0_ n1_ hb)
   | (go_at_call 23; (with_reducible refine (refput_calls g _ _ _ _ w0 _ HB.out HS.out.own ?ha_ ?hb_ ?hc_).mono ?_); (case ha_ => have := HU64.out; constructor <;> omega); (case hb_ => constructor <;> omega); (case hc_ => (try rw [List.length_append, nb_length]); have := HL.out; omega); rintro e w6 ⟨rfl, ht⟩; obtain ⟨F_, hs_⟩ := Turned.sep ht (HS.out) rfl; have n0_ := Aside0.mk (Turned.below ht); clear HB HS ht; have HB := n0_; have HS := Aside0.mk hs_; clear n0_ hs_; (first | rw [HP1.out] at HS | rw [HP2.out] at HS)))
  (first | go_end0 | ((try simp only [Exit.inBlock, Exit.then]); refine bodyPost_ret (results_none rfl _ _ _) rfl ?_))
  exact ⟨rfl, Turned.of_sep HS.out HB0.out HB.out⟩
 by_cases hz3 : u < 4294967296
 ·have hb0 : ((u : Int) == 0) = false := by rw [beq_eq_false_iff_ne]; omega
  have hb1 : decide ((u : Int) < 128) = false := decide_eq_false (by omega)
  have hb2 : decide ((u : Int) < 16384) = false := decide_eq_false (by omega)
  have hb3 : decide ((u : Int) < 4294967296) = true := decide_eq_true (by omega)
  have hp1 : putL L 14 4 = L ++ nb 14 4 := putL_ok (n := 14) (w := 4) (by omega) (by decide) (by have := HL.out; omega)
  have hp2 : putL (L ++ nb 14 4) (u : Int) 32 = L ++ markB n := by
   have e : putL (L ++ nb 14 4) (u : Int) 32 = (L ++ nb 14 4) ++ nb u 32 := putL_ok (n := u) (w := 32) (by omega) (by omega) (by rw [List.length_append, nb_length]; have := HL.out; omega)
   rw [e, List.append_assoc]
   unfold markB
   dsimp only
   rw [← HU.out, if_neg (by omega), if_neg (by omega), if_neg (by omega), if_pos (by omega)]
  have HP1 := Aside0.mk hp1
  have HP2 := Aside0.mk hp2
  clear hp1 hp2 hz0 hz1 hz2 hz3
  go_enter Try.func67, Try.ntmps67
  go_wp2_with (first
   | (go_at_call 98; (with_reducible refine (reffold_calls n _ HN.out).mono ?_); rintro e w1 ⟨rfl, hb⟩; rw [← HU.out]; have n0_ := Aside0.mk (below_step (by repeat (first | exact HB.out | apply below_alloc | apply pw_below_drewN | apply below_drew1)) hb); have n1_ := Aside0.mk (Sep.below (by repeat (first | exact HS.out | apply sep_alloc | apply sep_drewN | apply sep_drew)) hb); clear HB HS; have HB := n0_; have HS := n1_; clear n0_ n1_ hb)
   | (go_at_call 23; (with_reducible refine (refput_calls g _ _ _ _ w0 _ HB.out HS.out.own ?ha_ ?hb_ ?hc_).mono ?_); (case ha_ => have := HU64.out; constructor <;> omega); (case hb_ => constructor <;> omega); (case hc_ => (try rw [List.length_append, nb_length]); have := HL.out; omega); rintro e w6 ⟨rfl, ht⟩; obtain ⟨F_, hs_⟩ := Turned.sep ht (HS.out) rfl; have n0_ := Aside0.mk (Turned.below ht); clear HB HS ht; have HB := n0_; have HS := Aside0.mk hs_; clear n0_ hs_; (first | rw [HP1.out] at HS | rw [HP2.out] at HS)))
  (first | go_end0 | ((try simp only [Exit.inBlock, Exit.then]); refine bodyPost_ret (results_none rfl _ _ _) rfl ?_))
  exact ⟨rfl, Turned.of_sep HS.out HB0.out HB.out⟩
 have hb0 : ((u : Int) == 0) = false := by rw [beq_eq_false_iff_ne]; omega
 have hb1 : decide ((u : Int) < 128) = false := decide_eq_false (by omega)
 have hb2 : decide ((u : Int) < 16384) = false := decide_eq_false (by omega)
 have hb3 : decide ((u : Int) < 4294967296) = false := decide_eq_false (by omega)
 have hp1 : putL L 15 4 = L ++ nb 15 4 := putL_ok (n := 15) (w := 4) (by omega) (by decide) (by have := HL.out; omega)
 have hp2 : putL (L ++ nb 15 4) (u : Int) 64 = L ++ markB n := by
  have e : putL (L ++ nb 15 4) (u : Int) 64 = (L ++ nb 15 4) ++ nb u 64 := putL_ok (n := u) (w := 64) (by omega) (by exact HU64.out) (by rw [List.length_append, nb_length]; have := HL.out; omega)
  rw [e, List.append_assoc]
  unfold markB
  dsimp only
  rw [← HU.out, if_neg (by omega), if_neg (by omega), if_neg (by omega), if_neg (by omega)]
 have HP1 := Aside0.mk hp1
 have HP2 := Aside0.mk hp2
 clear hp1 hp2 hz0 hz1 hz2 hz3
 go_enter Try.func67, Try.ntmps67
 go_wp2_with (first
  | (go_at_call 98; (with_reducible refine (reffold_calls n _ HN.out).mono ?_); rintro e w1 ⟨rfl, hb⟩; rw [← HU.out]; have n0_ := Aside0.mk (below_step (by repeat (first | exact HB.out | apply below_alloc | apply pw_below_drewN | apply below_drew1)) hb); have n1_ := Aside0.mk (Sep.below (by repeat (first | exact HS.out | apply sep_alloc | apply sep_drewN | apply sep_drew)) hb); clear HB HS; have HB := n0_; have HS := n1_; clear n0_ n1_ hb)
  | (go_at_call 23; (with_reducible refine (refput_calls g _ _ _ _ w0 _ HB.out HS.out.own ?ha_ ?hb_ ?hc_).mono ?_); (case ha_ => have := HU64.out; constructor <;> omega); (case hb_ => constructor <;> omega); (case hc_ => (try rw [List.length_append, nb_length]); have := HL.out; omega); rintro e w6 ⟨rfl, ht⟩; obtain ⟨F_, hs_⟩ := Turned.sep ht (HS.out) rfl; have n0_ := Aside0.mk (Turned.below ht); clear HB HS ht; have HB := n0_; have HS := Aside0.mk hs_; clear n0_ hs_; (first | rw [HP1.out] at HS | rw [HP2.out] at HS)))
 (first | go_end0 | ((try simp only [Exit.inBlock, Exit.then]); refine bodyPost_ret (results_none rfl _ _ _) rfl ?_))
 exact ⟨rfl, Turned.of_sep HS.out HB0.out HB.out⟩
end Go.Proofs.Ythkpnnbjcendcaa.Sc
end
section
open Go.RowKit Go.Proofs.Ythkpnnbjcendcaa.X Go.Proofs.Ythkpnnbjcendcaa.Pl Go.Proofs.YthkpnnbjcendcaaW.PrintWords Go.Proofs.YthkpnnbjcendcaaW.PrintLast Go.Proofs.YthkpnnbjcendcaaW.PrintMore
namespace Go.Proofs.Ythkpnnbjcendcaa.Pure
theorem ref_put_from (k : Nat) : ∀ (n : Nat) (O : List Int), n < 128 ^ (k + 1) → n < 2 ^ 64 → O.length + k ≤ 200000000 → Ev (fun q => marigraphref01_Put.l0 q (n : Int) O) (O ++ varint n) := by
 induction k with
 | zero =>
  intro n O h h64 hO
  have hs : n < 128 := by simpa using h
  refine ev_succ (fun q => by rw [marigraphref01_Put.l0]) (ev_neg (by omega) (ev_pos (by omega) (ev_eq (Ev.now _) ?_)))
  rw [varint_small hs, show (n : Int) % 256 = (n : Int) by omega]
 | succ k ih =>
  intro n O h h64 hO
  by_cases hs : n < 128
  ·refine ev_succ (fun q => by rw [marigraphref01_Put.l0]) (ev_neg (by omega) (ev_pos (by omega) (ev_eq (Ev.now _) ?_)))
   rw [varint_small hs, show (n : Int) % 256 = (n : Int) by omega]
  ·refine ev_succ (fun q => by rw [marigraphref01_Put.l0]) (ev_pos (by omega) (ev_pos (by omega) ?_))
   have e1 : IntKind.u64.wrap (Int.tdiv (n : Int) 128) = ((n / 128 : Nat) : Int) := by
    rw [tdiv_pos (by omega), u64_wrap]; omega
   have e2 : IntKind.u64.wrap (Int.tmod (n : Int) 128 + 128) % 256 = ((n % 128 + 128 : Nat) : Int) := by
    rw [tmod_pos (by omega), u64_wrap]; omega
   rw [e1, e2]
   refine ev_eq (ih (n / 128) _ (by rw [Nat.pow_succ] at h; exact Nat.div_lt_of_lt_mul (by omega)) (by omega) (by rw [List.length_append, List.length_singleton]; omega)) ?_
   rw [varint_big hs, List.append_assoc]
   rfl
theorem ref_put_ev (b : List Int) (n : Nat) (hb : b.length ≤ 100000000) (hn : n < 2 ^ 64) : Ev (fun k => marigraphref01_Put.f k b (n : Int)) (b ++ varint n) := by
 unfold marigraphref01_Put.f
 simp only [Option.bind_some, List.nil_append, List.length_nil]
 refine ev_pos (by omega) (ref_put_from 9 n b (Nat.lt_of_lt_of_le hn (by decide)) hn (by omega))
theorem split_from (l : List S52) (hl : l.length ≤ 1000000) (d : Nat) : ∀ j : Nat, l.length - j = d → j ≤ l.length →
  Ev (fun k => marigraphref04_split.l0 k l ((l.take j).map (·.f0)) ((l.take j).map (·.f1)) (j : Int)) (l.map (·.f0), l.map (·.f1)) := by
 induction d with
 | zero =>
  intro j hd hj
  refine ev_succ (fun k => by rw [marigraphref04_split.l0]) (ev_neg (by omega) (ev_eq (Ev.now _) ?_))
  rw [List.take_of_length_le (by omega)]
 | succ d ih =>
  intro j hd hj
  have hlt : j < l.length := by omega
  have hnx : wrap64 ((j : Int) + 1) = ((j + 1 : Nat) : Int) := by rw [w64 (by omega) (by omega)]; simp
  have hlen : (l.take j).length = j := by rw [List.length_take]; omega
  refine ev_succ (fun k => by rw [marigraphref04_split.l0]) (ev_pos (by omega) (ev_pos (by omega) (ev_pos (by rw [List.length_map, hlen]; omega) (ev_pos (by rw [List.length_map, hlen]; omega) ?_))))
  rw [hnx]
  have htk : l.take (j + 1) = l.take j ++ [rd_T52 l (j : Int)] := by
   rw [List.take_succ_eq_append_getElem hlt]
   unfold rd_T52
   rw [Int.toNat_natCast, getD_lt _ _ _ hlt]
  have := ih (j + 1) (by omega) (by omega)
  rw [htk, List.map_append, List.map_append] at this
  exact this
theorem split_ev (l : List S52) (hl : l.length ≤ 1000000) : Ev (fun k => marigraphref04_split.f k l) (l.map (·.f0), l.map (·.f1)) := by
 unfold marigraphref04_split.f
 exact split_from l hl l.length 0 (by omega) (by omega)
theorem marks_step (a b : List Int) (j : Nat) (ha : j < a.length) (hb : j < b.length) : marks (a.take (j + 1)) (b.take (j + 1)) = marks (a.take j) (b.take j) ++ markB (rd a (j : Int)) ++ markB (rd b (j : Int)) := by
 induction j generalizing a b with
 | zero =>
  match a, b, ha, hb with
  | x :: a, y :: b, _, _ => simp [marks, rd]
 | succ j ih =>
  match a, b, ha, hb with
  | x :: a, y :: b, ha, hb =>
   have h1 := ih a b (by simpa using ha) (by simpa using hb)
   simp only [List.take_succ_cons, marks, h1, List.append_assoc]
   simp [rd]
end Go.Proofs.Ythkpnnbjcendcaa.Pure
end
end
section
open Go.RowKit Go.Proofs.Ythkpnnbjcendcaa.X Go.Proofs.Ythkpnnbjcendcaa.Pl Go.Proofs.YthkpnnbjcendcaaW.PrintWords Go.Proofs.YthkpnnbjcendcaaW.PrintLast Go.Proofs.YthkpnnbjcendcaaW.PrintMore
namespace Go.Proofs.Ythkpnnbjcendcaa.Pure
def Seg (b : List Int) (p : Nat) (L : List Bool) : Prop := p + L.length ≤ 8 * b.length ∧ ∀ j, j < L.length → bt b (p + j) = b2 (L.getD j false)
theorem getD_app {A B : List Bool} (j : Nat) : (A ++ B).getD j false = if j < A.length then A.getD j false else B.getD (j - A.length) false := by
 rw [List.getD_eq_getElem?_getD, List.getD_eq_getElem?_getD, List.getD_eq_getElem?_getD]
 split
 ·rw [List.getElem?_append_left (by assumption)]
 ·rw [List.getElem?_append_right (by omega)]
theorem seg_app {b : List Int} {p : Nat} {A B : List Bool} : Seg b p (A ++ B) ↔ Seg b p A ∧ Seg b (p + A.length) B := by
 unfold Seg
 rw [List.length_append]
 constructor
 ·rintro ⟨h1, h2⟩
  refine ⟨⟨by omega, fun j hj => ?_⟩, by omega, fun j hj => ?_⟩
  ·have := h2 j (by omega)
   rw [getD_app, if_pos hj] at this
   exact this
  ·have := h2 (A.length + j) (by omega)
   rw [getD_app, if_neg (by omega), show A.length + j - A.length = j by omega, ← Nat.add_assoc] at this
   exact this
 ·rintro ⟨⟨h1, h2⟩, h3, h4⟩
  refine ⟨by omega, fun j hj => ?_⟩
  rw [getD_app]
  split
  ·exact h2 j (by assumption)
  ·have := h4 (j - A.length) (by omega)
   rw [show p + A.length + (j - A.length) = p + j by omega] at this
   exact this
theorem seg_nil {b : List Int} {p : Nat} (h : p ≤ 8 * b.length) : Seg b p [] := ⟨by simpa using h, fun j hj => absurd hj (by simp)⟩
theorem val_bits (b : List Int) (p : Nat) : ∀ (w j : Nat), j < w → bt b (p + j) = val b p w / 2 ^ (w - 1 - j) % 2
 | 0, j, h => absurd h (by omega)
 | w + 1, j, h => by
  rw [val]
  have hb := bt_lt b (p + w)
  by_cases hj : j = w
  ·subst hj
   rw [show j + 1 - 1 - j = 0 by omega, Nat.pow_zero, Nat.div_one]
   omega
  ·rw [val_bits b p w j (by omega), show w + 1 - 1 - j = (w - 1 - j) + 1 by omega, Nat.pow_succ', ← Nat.div_div_eq_div_mul]
   congr 2
   omega
theorem seg_nb {b : List Int} {p n w : Nat} (hn : n < 2 ^ w) : Seg b p (nb n w) ↔ p + w ≤ 8 * b.length ∧ val b p w = n := by
 unfold Seg
 rw [nb_length]
 constructor
 ·rintro ⟨h1, h2⟩
  refine ⟨h1, ?_⟩
  have e : ∀ w n : Nat, (∀ j, j < w → bt b (p + j) = n / 2 ^ (w - 1 - j) % 2) → val b p w = n % 2 ^ w := by
   intro w
   induction w with
   | zero => intro n _; simp [val, Nat.mod_one]
   | succ w ih =>
    intro n h
    have g1 := ih (n / 2) (fun j hj => by
     rw [h j (by omega), Nat.div_div_eq_div_mul, ← Nat.pow_succ', show (w - 1 - j).succ = w + 1 - 1 - j by omega])
    have g2 := h w (by omega)
    rw [show w + 1 - 1 - w = 0 by omega, Nat.pow_zero, Nat.div_one] at g2
    rw [val, g1, g2, Nat.pow_succ', Nat.mod_mul]
    omega
  rw [e w n (fun j hj => by rw [h2 j hj, nb_getD hj]), Nat.mod_eq_of_lt hn]
 ·rintro ⟨h1, rfl⟩
  exact ⟨h1, fun j hj => by rw [nb_getD hj, val_bits b p w j hj]⟩
theorem val_one (b : List Int) (p : Nat) : val b p 1 = bt b p := by simp [val]
def onesAt (b : List Int) (p : Nat) : Nat :=
 if ¬(p + 1 ≤ 8 * b.length ∧ bt b p = 1) then 0 else if ¬(p + 2 ≤ 8 * b.length ∧ bt b (p + 1) = 1) then 1 else if ¬(p + 3 ≤ 8 * b.length ∧ bt b (p + 2) = 1) then 2 else if ¬(p + 4 ≤ 8 * b.length ∧ bt b (p + 3) = 1) then 3 else 4
def wid (k : Nat) : Nat := if k = 0 then 0 else if k = 1 then 7 else if k = 2 then 14 else if k = 3 then 32 else 64
def headW (k : Nat) : Nat := if k < 4 then k + 1 else 4
def openN (u : Nat) : Int := if u % 2 = 1 then -((u / 2 : Nat) : Int) - 1 else ((u / 2 : Nat) : Int)
def decM (b : List Int) (p : Nat) : Option (Nat × Nat × Nat) :=
 if p + headW (onesAt b p) + wid (onesAt b p) ≤ 8 * b.length then some (onesAt b p, val b (p + headW (onesAt b p)) (wid (onesAt b p)), p + headW (onesAt b p) + wid (onesAt b p)) else none
def decL (b : List Int) (p : Nat) : Option (Int × Nat) := match decM b p with
 | some (_, u, q) => some (openN u, q)
 | none => none
def decS (b : List Int) (p : Nat) : Option (Int × Nat) := match decM b p with
 | some (k, u, q) => if 0 < k ∧ u < 2 ^ wid (k - 1) then none else some (openN u, q)
 | none => none
theorem ones_le (b : List Int) (p : Nat) : onesAt b p ≤ 4 := by unfold onesAt; (repeat' split) <;> omega
theorem open_fits {u : Nat} (h : u < 2 ^ 64) : fits64 (openN u) := by unfold fits64 openN; split <;> omega
theorem fold_open {u : Nat} : foldN (openN u) = u := by unfold foldN openN; (repeat' split) <;> omega
theorem open_fold (n : Int) : openN (foldN n) = n := by unfold foldN openN; (repeat' split) <;> omega
theorem dec_mark_some {b : List Int} {p k u q : Nat} (h : decM b p = some (k, u, q)) : k = onesAt b p ∧ u = val b (p + headW k) (wid k) ∧ q = p + headW k + wid k ∧ q ≤ 8 * b.length := by
 unfold decM at h
 split at h
 case isFalse => cases h
 case isTrue hl =>
  injection h with h
  injection h with h1 h
  injection h with h2 h3
  subst h1
  exact ⟨rfl, h2.symm, h3.symm, by omega⟩
def markK (k u : Nat) : List Bool := (if k = 0 then [false] else if k = 1 then nb 2 2 else if k = 2 then nb 6 3 else if k = 3 then nb 14 4 else nb 15 4) ++ nb u (wid k)
theorem markK_length (k u : Nat) (hk : k ≤ 4) : (markK k u).length = headW k + wid k := by
 unfold markK headW
 rw [List.length_append, nb_length]
 rcases (by omega : k = 0 ∨ k = 1 ∨ k = 2 ∨ k = 3 ∨ k = 4) with rfl | rfl | rfl | rfl | rfl <;> simp [nb_length]
theorem seg_bit {b : List Int} {p : Nat} {c : Bool} : Seg b p [c] ↔ p + 1 ≤ 8 * b.length ∧ bt b p = b2 c := by
 unfold Seg
 constructor
 ·rintro ⟨h1, h2⟩
  have := h2 0 (by simp)
  simpa using ⟨h1, this⟩
 ·rintro ⟨h1, h2⟩
  refine ⟨by simpa using h1, fun j hj => ?_⟩
  have : j = 0 := by simp at hj; omega
  subst this
  simpa using h2
theorem seg_cons {b : List Int} {p : Nat} {c : Bool} {L : List Bool} : Seg b p (c :: L) ↔ Seg b p [c] ∧ Seg b (p + 1) L := by
 rw [show c :: L = [c] ++ L from rfl, seg_app]
 rfl
theorem head_bits (k : Nat) (hk : k ≤ 4) : (if k = 0 then [false] else if k = 1 then nb 2 2 else if k = 2 then nb 6 3 else if k = 3 then nb 14 4 else nb 15 4) = (if k = 0 then [false] else if k = 1 then [true, false] else if k = 2 then [true, true, false] else if k = 3 then [true, true, true, false] else [true, true, true, true]) := by
 rcases (by omega : k = 0 ∨ k = 1 ∨ k = 2 ∨ k = 3 ∨ k = 4) with rfl | rfl | rfl | rfl | rfl <;> decide
theorem one_ne : ((1 : Nat) = 0) = False := by simp
theorem seg_ones {b : List Int} {p k u : Nat} (hk : k ≤ 4) (h : Seg b p (markK k u)) : onesAt b p = k := by
 unfold markK at h
 rw [head_bits k hk] at h
 have h := (seg_app.1 h).1
 rcases (by omega : k = 0 ∨ k = 1 ∨ k = 2 ∨ k = 3 ∨ k = 4) with rfl | rfl | rfl | rfl | rfl <;> simp only [Nat.reduceEqDiff, if_true, if_false, Bool.false_eq_true, seg_cons (L := _ :: _), seg_bit, b2, Nat.add_assoc, Nat.reduceAdd, Nat.succ_ne_zero, one_ne] at h <;> unfold onesAt
 ·rw [if_pos (by omega)]
 ·rw [if_neg (by omega), if_pos (by omega)]
 ·rw [if_neg (by omega), if_neg (by omega), if_pos (by omega)]
 ·rw [if_neg (by omega), if_neg (by omega), if_neg (by omega), if_pos (by omega)]
 ·rw [if_neg (by omega), if_neg (by omega), if_neg (by omega), if_neg (by omega)]
theorem ones_seg {b : List Int} {p : Nat} (h : p + headW (onesAt b p) ≤ 8 * b.length) : Seg b p (if onesAt b p = 0 then [false] else if onesAt b p = 1 then [true, false] else if onesAt b p = 2 then [true, true, false] else if onesAt b p = 3 then [true, true, true, false] else [true, true, true, true]) := by
 have t0 := bt_lt b p
 have t1 := bt_lt b (p + 1)
 have t2 := bt_lt b (p + 2)
 have t3 := bt_lt b (p + 3)
 by_cases c0 : p + 1 ≤ 8 * b.length ∧ bt b p = 1
 ·by_cases c1 : p + 2 ≤ 8 * b.length ∧ bt b (p + 1) = 1
  ·by_cases c2 : p + 3 ≤ 8 * b.length ∧ bt b (p + 2) = 1
   ·by_cases c3 : p + 4 ≤ 8 * b.length ∧ bt b (p + 3) = 1
    ·have e : onesAt b p = 4 := by unfold onesAt; rw [if_neg (by omega), if_neg (by omega), if_neg (by omega), if_neg (by omega)]
     rw [e] at h ⊢
     simp only [headW] at h
     simp only [Nat.reduceEqDiff, if_true, if_false, seg_cons (L := _ :: _), seg_bit, b2, Nat.add_assoc]
     simp at h ⊢
     omega
    ·have e : onesAt b p = 3 := by unfold onesAt; rw [if_neg (by omega), if_neg (by omega), if_neg (by omega), if_pos c3]
     rw [e] at h ⊢
     simp only [headW] at h
     simp only [Nat.reduceEqDiff, if_true, if_false, seg_cons (L := _ :: _), seg_bit, b2, Nat.add_assoc]
     simp at h ⊢
     omega
   ·have e : onesAt b p = 2 := by unfold onesAt; rw [if_neg (by omega), if_neg (by omega), if_pos c2]
    rw [e] at h ⊢
    simp only [headW] at h
    simp only [Nat.reduceEqDiff, if_true, if_false, seg_cons (L := _ :: _), seg_bit, b2, Nat.add_assoc]
    simp at h ⊢
    omega
  ·have e : onesAt b p = 1 := by unfold onesAt; rw [if_neg (by omega), if_pos c1]
   rw [e] at h ⊢
   simp only [headW] at h
   simp only [Nat.reduceEqDiff, if_true, if_false, seg_cons (L := _ :: _), seg_bit, b2, Nat.add_assoc]
   simp at h ⊢
   omega
 ·have e : onesAt b p = 0 := by unfold onesAt; rw [if_pos c0]
  rw [e] at h ⊢
  simp only [headW] at h
  simp only [if_true, seg_bit, b2]
  simp at h ⊢
  omega
theorem decM_seg {b : List Int} {p k u q : Nat} : decM b p = some (k, u, q) ↔ k ≤ 4 ∧ u < 2 ^ wid k ∧ Seg b p (markK k u) ∧ q = p + (markK k u).length := by
 constructor
 ·intro h
  obtain ⟨rfl, hu, hq, hl⟩ := dec_mark_some h
  have hk := ones_le b p
  have hlt : u < 2 ^ wid (onesAt b p) := hu ▸ val_lt _ _ _
  refine ⟨hk, hlt, ?_, by rw [markK_length _ _ hk]; omega⟩
  unfold markK
  rw [head_bits _ hk, seg_app]
  refine ⟨ones_seg (by omega), ?_⟩
  rw [seg_nb hlt]
  have hh : (if onesAt b p = 0 then [false] else if onesAt b p = 1 then [true, false] else if onesAt b p = 2 then [true, true, false] else if onesAt b p = 3 then [true, true, true, false] else [true, true, true, true]).length = headW (onesAt b p) := by
   unfold headW
   rcases (by omega : onesAt b p = 0 ∨ onesAt b p = 1 ∨ onesAt b p = 2 ∨ onesAt b p = 3 ∨ onesAt b p = 4) with e | e | e | e | e <;> rw [e] <;> simp
  rw [hh]
  exact ⟨by omega, hu.symm⟩
 ·rintro ⟨hk, hu, hs, rfl⟩
  have e := seg_ones hk hs
  have hl := hs.1
  rw [markK_length _ _ hk] at hl ⊢
  unfold markK at hs
  have h2 := (seg_app.1 hs).2
  rw [seg_nb hu] at h2
  have hh : (if k = 0 then [false] else if k = 1 then nb 2 2 else if k = 2 then nb 6 3 else if k = 3 then nb 14 4 else nb 15 4).length = headW k := by
   unfold headW
   rcases (by omega : k = 0 ∨ k = 1 ∨ k = 2 ∨ k = 3 ∨ k = 4) with rfl | rfl | rfl | rfl | rfl <;> simp [nb_length]
  rw [hh] at h2
  unfold decM
  rw [e, if_pos (by omega), h2.2, Nat.add_assoc]
theorem markB_K (n : Int) (h : fits64 n) : ∃ k, k ≤ 4 ∧ foldN n < 2 ^ wid k ∧ markB n = markK k (foldN n) ∧ ¬(0 < k ∧ foldN n < 2 ^ wid (k - 1)) := by
 have hu := foldN_lt h
 unfold markB markK
 generalize foldN n = u at hu
 by_cases c0 : u = 0
 ·exact ⟨0, by omega, by simp [wid, c0], by subst c0; simp [wid, nb], by simp⟩
 ·by_cases c1 : u < 128
  ·exact ⟨1, by omega, by simpa [wid] using c1, by simp [c0, c1, wid], by simp [wid]; omega⟩
  ·by_cases c2 : u < 16384
   ·exact ⟨2, by omega, by simpa [wid] using c2, by simp [c0, c1, c2, wid], by simp [wid]; omega⟩
   ·by_cases c3 : u < 4294967296
    ·exact ⟨3, by omega, by simpa [wid] using c3, by simp [c0, c1, c2, c3, wid], by simp [wid]; omega⟩
    ·exact ⟨4, by omega, by simpa [wid] using hu, by simp [c0, c1, c2, c3, wid], by simp [wid]; omega⟩
theorem markK_B (k u : Nat) (hk : k ≤ 4) (hu : u < 2 ^ wid k) (hc : ¬(0 < k ∧ u < 2 ^ wid (k - 1))) : markB (openN u) = markK k u ∧ fits64 (openN u) := by
 have h64 : u < 2 ^ 64 := by
  have : wid k ≤ 64 := by unfold wid; (repeat' split) <;> omega
  exact Nat.lt_of_lt_of_le hu (Nat.pow_le_pow_right (by decide) this)
 refine ⟨?_, open_fits h64⟩
 unfold markB markK
 rw [fold_open]
 rcases (by omega : k = 0 ∨ k = 1 ∨ k = 2 ∨ k = 3 ∨ k = 4) with rfl | rfl | rfl | rfl | rfl
 ·have : u = 0 := by simpa [wid] using hu
  subst this
  simp [wid, nb]
 ·have h1 : u < 128 := by simpa [wid] using hu
  have h2 : u ≠ 0 := by simpa [wid] using hc
  simp [h1, h2, wid]
 ·have h1 : u < 16384 := by simpa [wid] using hu
  have h2 : 128 ≤ u := by simpa [wid] using hc
  simp [h1, wid, show u ≠ 0 by omega, show ¬ u < 128 by omega]
 ·have h1 : u < 4294967296 := by simpa [wid] using hu
  have h2 : 16384 ≤ u := by simpa [wid] using hc
  simp [h1, wid, show u ≠ 0 by omega, show ¬ u < 128 by omega, show ¬ u < 16384 by omega]
 ·have h2 : 4294967296 ≤ u := by simpa [wid] using hc
  simp [wid, show u ≠ 0 by omega, show ¬ u < 128 by omega, show ¬ u < 16384 by omega, show ¬ u < 4294967296 by omega]
theorem decS_seg {b : List Int} {p q : Nat} {n : Int} : decS b p = some (n, q) ↔ fits64 n ∧ Seg b p (markB n) ∧ q = p + (markB n).length := by
 constructor
 ·intro h
  unfold decS at h
  split at h
  case h_2 => cases h
  case h_1 k u q' hm =>
   split at h
   case isTrue => cases h
   case isFalse hc =>
    injection h with h
    injection h with h1 h2
    subst h1 h2
    obtain ⟨hk, hu, hs, hq⟩ := decM_seg.1 hm
    obtain ⟨e, hf⟩ := markK_B k u hk hu hc
    rw [e]
    exact ⟨hf, hs, hq⟩
 ·rintro ⟨hf, hs, rfl⟩
  obtain ⟨k, hk, hu, e, hc⟩ := markB_K n hf
  rw [e] at hs
  unfold decS
  rw [decM_seg.2 ⟨hk, hu, hs, rfl⟩]
  dsimp only
  rw [if_neg hc, open_fold, e]
theorem decS_L {b : List Int} {p q : Nat} {n : Int} (h : decS b p = some (n, q)) : decL b p = some (n, q) := by
 unfold decS at h
 unfold decL
 split at h
 case h_2 => cases h
 case h_1 k u q' hm =>
  split at h
  case isTrue => cases h
  case isFalse => exact h
end Go.Proofs.Ythkpnnbjcendcaa.Pure
namespace Go.Proofs.Ythkpnnbjcendcaa.Pure
theorem byt_pack (L : List Bool) : Byt (pack L) := by
 intro x hx
 unfold pack at hx
 obtain ⟨i, _, rfl⟩ := List.mem_map.1 hx
 have := byteOf_lt (fun j => L.getD (8 * i + j) false)
 omega
theorem clr_pack (L : List Bool) : clr (pack L) (L.length : Int) = true := by
 unfold clr
 rw [if_neg (by omega)]
 simp only [decide_eq_true_eq]
 intro q hq hm
 rw [pack_bt L q hq, List.getD_eq_getElem?_getD, List.getElem?_eq_none (by omega)]
 rfl
end Go.Proofs.Ythkpnnbjcendcaa.Pure
namespace Go.Proofs.Ythkpnnbjcendcaa.Pure
def decXY (f : List Int → Nat → Option (Int × Nat)) (b : List Int) : Nat → Nat → Option (List Int × List Int × Nat)
 | 0, p => some ([], [], p)
 | k + 1, p => match f b p with
  | none => none
  | some (x, p1) => match f b p1 with
   | none => none
   | some (y, p2) => match decXY f b k p2 with
    | none => none
    | some (xs, ys, q) => some (x :: xs, y :: ys, q)
def zipP (xs ys : List Int) : List S52 := List.zipWith (fun t v => ⟨t, v⟩) xs ys
theorem zipP_cons (x y : Int) (xs ys : List Int) : zipP (x :: xs) (y :: ys) = ⟨x, y⟩ :: zipP xs ys := rfl
theorem zipP_length (xs ys : List Int) (h : xs.length = ys.length) : (zipP xs ys).length = xs.length := by
 unfold zipP
 rw [List.length_zipWith]
 omega
theorem zipP_f0 : ∀ xs ys : List Int, xs.length = ys.length → (zipP xs ys).map (·.f0) = xs
 | [], [], _ => rfl
 | x :: xs, y :: ys, h => by rw [zipP_cons, List.map_cons, zipP_f0 xs ys (by simpa using h)]
 | [], y :: ys, h => by simp at h
 | x :: xs, [], h => by simp at h
theorem zipP_f1 : ∀ xs ys : List Int, xs.length = ys.length → (zipP xs ys).map (·.f1) = ys
 | [], [], _ => rfl
 | x :: xs, y :: ys, h => by rw [zipP_cons, List.map_cons, zipP_f1 xs ys (by simpa using h)]
 | [], y :: ys, h => by simp at h
 | x :: xs, [], h => by simp at h
theorem zipP_map (l : List S52) : zipP (l.map (·.f0)) (l.map (·.f1)) = l := by
 induction l with
 | nil => rfl
 | cons p l ih => rw [List.map_cons, List.map_cons, zipP_cons, ih]
theorem zipP_fit (xs ys : List Int) (hx : ∀ x ∈ xs, fits64 x) (hy : ∀ y ∈ ys, fits64 y) : fitP (zipP xs ys) := by
 intro p hp
 unfold zipP at hp
 obtain ⟨i, hi, rfl⟩ := List.mem_iff_getElem.1 hp
 rw [List.getElem_zipWith]
 exact ⟨hx _ (List.getElem_mem _), hy _ (List.getElem_mem _)⟩
theorem frs_fits (l : List Int) : ∀ a b, ∀ x ∈ frs a b l, fits64 x := by
 induction l with
 | nil => intro a b x hx; simp [frs] at hx
 | cons s l ih =>
  intro a b x hx
  rw [frs] at hx
  rcases List.mem_cons.1 hx with rfl | hx
  ·exact fits_wrap _
  ·exact ih _ _ x hx
theorem secs_fits (l : List Int) : ∀ a b, ∀ x ∈ secs a b l, fits64 x := by
 induction l with
 | nil => intro a b x hx; simp [secs] at hx
 | cons s l ih =>
  intro a b x hx
  rw [secs] at hx
  rcases List.mem_cons.1 hx with rfl | hx
  ·exact fits_wrap _
  ·exact ih _ _ x hx
theorem XY_seg (b : List Int) : ∀ k p, p ≤ 8 * b.length → ∀ xs ys q, decXY decS b k p = some (xs, ys, q) ↔ xs.length = k ∧ ys.length = k ∧ (∀ x ∈ xs, fits64 x) ∧ (∀ y ∈ ys, fits64 y) ∧ Seg b p (marks xs ys) ∧ q = p + (marks xs ys).length
 | 0, p, hp, xs, ys, q => by
  rw [decXY]
  constructor
  ·intro h
   injection h with h
   injection h with h1 h
   injection h with h2 h3
   subst h1 h2 h3
   exact ⟨rfl, rfl, by simp, by simp, seg_nil hp, by simp [marks]⟩
  ·rintro ⟨h1, h2, _, _, _, h5⟩
   have e1 := List.eq_nil_of_length_eq_zero h1
   have e2 := List.eq_nil_of_length_eq_zero h2
   subst e1 e2
   rw [h5]
   rfl
 | k + 1, p, hp, xs, ys, q => by
  rw [decXY]
  constructor
  ·intro h
   split at h
   ·cases h
   ·split at h
    ·cases h
    ·split at h
     ·cases h
     ·rename_i x p1 h1 _ y p2 h2 _ xs' ys' q' hr
      injection h with h
      injection h with e1 h
      injection h with e2 e3
      subst e1 e2 e3
      obtain ⟨f1, s1, r1⟩ := decS_seg.1 h1
      obtain ⟨f2, s2, r2⟩ := decS_seg.1 h2
      have hp1 : p1 ≤ 8 * b.length := r1 ▸ s1.1
      have hp2 : p2 ≤ 8 * b.length := r2 ▸ s2.1
      obtain ⟨g1, g2, g3, g4, g5, g6⟩ := (XY_seg b k p2 hp2 xs' ys' q').1 hr
      refine ⟨by simp [g1], by simp [g2], ?_, ?_, ?_, ?_⟩
      ·intro z hz
       rcases List.mem_cons.1 hz with rfl | hz
       ·exact f1
       ·exact g3 z hz
      ·intro z hz
       rcases List.mem_cons.1 hz with rfl | hz
       ·exact f2
       ·exact g4 z hz
      ·rw [marks, seg_app, seg_app]
       refine ⟨⟨s1, r1 ▸ s2⟩, ?_⟩
       rw [List.length_append, ← Nat.add_assoc, ← r1, ← r2]
       exact g5
      ·rw [marks, List.length_append, List.length_append, g6, r2, r1]
       omega
  ·rintro ⟨h1, h2, h3, h4, h5, h6⟩
   obtain ⟨x, xs', rfl⟩ := List.exists_cons_of_length_eq_add_one h1
   obtain ⟨y, ys', rfl⟩ := List.exists_cons_of_length_eq_add_one h2
   rw [marks, seg_app, seg_app] at h5
   obtain ⟨⟨s1, s2⟩, s3⟩ := h5
   rw [decS_seg.2 ⟨h3 x List.mem_cons_self, s1, rfl⟩]
   dsimp only
   rw [decS_seg.2 ⟨h4 y List.mem_cons_self, s2, rfl⟩]
   dsimp only
   rw [List.length_append, ← Nat.add_assoc] at s3
   have hp2 : p + (markB x).length + (markB y).length ≤ 8 * b.length := s2.1
   have g := (XY_seg b k _ hp2 xs' ys' (p + (markB x).length + (markB y).length + (marks xs' ys').length)).2 ⟨by simpa using h1, by simpa using h2, fun z hz => h3 z (List.mem_cons_of_mem _ hz), fun z hz => h4 z (List.mem_cons_of_mem _ hz), s3, rfl⟩
   rw [g]
   dsimp only
   rw [h6, marks, List.length_append, List.length_append]
   congr 3
   omega
theorem XY_lax (b : List Int) : ∀ k p {r}, decXY decS b k p = some r → decXY decL b k p = some r
 | 0, p, r, h => h
 | k + 1, p, r, h => by
  rw [decXY] at h ⊢
  split at h
  ·cases h
  ·split at h
   ·cases h
   ·split at h
    ·cases h
    ·rename_i x p1 h1 _ y p2 h2 _ xs' ys' q' hr
     rw [decS_L h1]
     dsimp only
     rw [decS_L h2]
     dsimp only
     rw [XY_lax b k p2 hr]
     exact h
theorem varint_inj : ∀ (n m : Nat) (r s : List Int), varint n ++ r = varint m ++ s → n = m ∧ r = s := by
 intro n
 induction n using Nat.strongRecOn with
 | _ n ih =>
  intro m r s h
  by_cases hn : n < 128
  ·rw [varint_small hn] at h
   by_cases hm : m < 128
   ·rw [varint_small hm] at h
    simp only [List.cons_append, List.nil_append, List.cons.injEq] at h
    exact ⟨by omega, h.2⟩
   ·rw [varint_big hm] at h
    simp only [List.cons_append, List.nil_append, List.cons.injEq] at h
    omega
  ·rw [varint_big hn] at h
   by_cases hm : m < 128
   ·rw [varint_small hm] at h
    simp only [List.cons_append, List.nil_append, List.cons.injEq] at h
    omega
   ·rw [varint_big hm] at h
    simp only [List.cons_append, List.cons.injEq] at h
    obtain ⟨h1, h2⟩ := ih (n / 128) (by omega) (m / 128) r s h.2
    exact ⟨by omega, h2⟩
theorem byt_app {a b : List Int} (h : Byt (a ++ b)) : Byt b := fun x hx => h x (List.mem_append_right _ hx)
theorem seg_pack {b : List Int} {L : List Bool} (hb : Byt b) (hs : Seg b 0 L) (hl : (L.length + 7) / 8 = b.length) (hc : clr b (L.length : Int) = true) (hm : L.length ≤ 262144) : b = pack L := by
 refine holds_eq ⟨⟨hb, hl.symm, hm, ?_⟩, ?_⟩
 ·intro q hq hq2
  unfold clr at hc
  rw [if_neg (by omega)] at hc
  exact (of_decide_eq_true hc) q hq (by omega)
 ·intro q hq
  have := hs.2 q hq
  rwa [Nat.zero_add] at this
theorem pack_seg (L : List Bool) : Seg (pack L) 0 L := by
 refine ⟨by rw [pack_length]; omega, fun j hj => ?_⟩
 rw [Nat.zero_add, pack_bt L j (by rw [pack_length]; omega)]
theorem dec_put {n : Nat} {r : List Int} {xs ys : List Int} {q : Nat} (hb : Byt r) (hn : n ≤ 1024) (h : decXY decS r n 0 = some (xs, ys, q)) :
  fitP (zipP (frs 0 0 xs) (frs 0 0 ys)) ∧ (zipP (frs 0 0 xs) (frs 0 0 ys)).length = n ∧ ((rightB (zipP (frs 0 0 xs) (frs 0 0 ys)) = true ∧ (q + 7) / 8 = r.length ∧ clr r (q : Int) = true) ↔ putR (zipP (frs 0 0 xs) (frs 0 0 ys)) = (varint n ++ r, 0)) := by
 obtain ⟨h1, h2, h3, h4, h5, h6⟩ := (XY_seg r n 0 (Nat.zero_le _) xs ys q).1 h
 have hL : (zipP (frs 0 0 xs) (frs 0 0 ys)).length = n := by rw [zipP_length _ _ (by rw [frs_length, frs_length, h1, h2]), frs_length, h1]
 have hM : marksP 0 0 0 0 (zipP (frs 0 0 xs) (frs 0 0 ys)) = marks xs ys := by
  unfold marksP
  rw [zipP_f0 _ _ (by rw [frs_length, frs_length, h1, h2]), zipP_f1 _ _ (by rw [frs_length, frs_length, h1, h2]), secs_frs _ _ _ h3, secs_frs _ _ _ h4]
 have hml := marksP_length (zipP (frs 0 0 xs) (frs 0 0 ys)) 0 0 0 0
 rw [hM, hL] at hml
 rw [Nat.zero_add] at h6
 subst h6
 refine ⟨zipP_fit _ _ (frs_fits _ _ _) (frs_fits _ _ _), hL, ?_⟩
 constructor
 ·rintro ⟨c1, c2, c3⟩
  unfold putR putB
  rw [if_neg (by omega), if_neg (by rw [c1]; decide), hL, hM, ← seg_pack hb h5 c2 c3 (by omega)]
 ·intro hp
  unfold putR at hp
  rw [if_neg (by omega)] at hp
  split at hp
  ·injection hp with _ hp
   exact absurd hp (by decide)
  ·rename_i hr
   injection hp with hp _
   unfold putB at hp
   rw [hL, hM] at hp
   have hr2 := (varint_inj _ _ _ _ hp).2
   subst hr2
   exact ⟨by simpa using hr, by rw [pack_length], clr_pack _⟩
theorem put_dec {l : List S52} {b : List Int} (hf : fitP l) (h : putR l = (b, 0)) :
  ∃ r xs ys q, b = varint l.length ++ r ∧ l.length ≤ 1024 ∧ decXY decS r l.length 0 = some (xs, ys, q) ∧ zipP (frs 0 0 xs) (frs 0 0 ys) = l := by
 unfold putR at h
 split at h
 ·injection h with _ h
  exact absurd h (by decide)
 ·rename_i hl
  split at h
  ·injection h with _ h
   exact absurd h (by decide)
  ·injection h with h _
   subst h
   refine ⟨pack (marksP 0 0 0 0 l), secs 0 0 (l.map (·.f0)), secs 0 0 (l.map (·.f1)), (marksP 0 0 0 0 l).length, rfl, by omega, ?_, ?_⟩
   ·rw [XY_seg _ _ _ (Nat.zero_le _)]
    refine ⟨by rw [secs_length, List.length_map], by rw [secs_length, List.length_map], secs_fits _ _ _, secs_fits _ _ _, pack_seg _, by rw [Nat.zero_add]; rfl⟩
   ·rw [frs_secs, frs_secs, zipP_map]
    ·intro x hx
     obtain ⟨p, hp, rfl⟩ := List.mem_map.1 hx
     exact (hf p hp).2
    ·intro x hx
     obtain ⟨p, hp, rfl⟩ := List.mem_map.1 hx
     exact (hf p hp).1
open Classical in
noncomputable def takeR (b : List Int) : List S52 × Int := if h : ∃ l, fitP l ∧ putR l = (b, 0) then (h.choose, 0) else ([], 6)
theorem put_inj {l m : List S52} {b : List Int} (hl : fitP l) (hm : fitP m) (h1 : putR l = (b, 0)) (h2 : putR m = (b, 0)) : l = m := by
 obtain ⟨r, xs, ys, q, e1, _, d1, rfl⟩ := put_dec hl h1
 obtain ⟨s, xs', ys', q', e2, _, d2, rfl⟩ := put_dec hm h2
 obtain ⟨e3, e4⟩ := varint_inj _ _ _ _ (e1.symm.trans e2)
 subst e4
 rw [e3, d2] at d1
 injection d1 with d1
 injection d1 with h1 d1
 injection d1 with h2 h3
 rw [h1, h2]
theorem take_put {l : List S52} {b : List Int} (hl : fitP l) (h : putR l = (b, 0)) : takeR b = (l, 0) := by
 have hex : ∃ l, fitP l ∧ putR l = (b, 0) := ⟨l, hl, h⟩
 unfold takeR
 rw [dif_pos hex, put_inj hex.choose_spec.1 hl hex.choose_spec.2 h]
theorem take_no {b : List Int} (h : ∀ l, fitP l → putR l ≠ (b, 0)) : takeR b = ([], 6) := by
 unfold takeR
 rw [dif_neg]
 rintro ⟨l, h1, h2⟩
 exact h l h1 h2
theorem take_ok {b : List Int} (h : (takeR b).2 = 0) : fitP (takeR b).1 ∧ putR (takeR b).1 = (b, 0) := by
 unfold takeR at h ⊢
 split
 ·rename_i hex
  exact hex.choose_spec
 ·rename_i hex
  rw [dif_neg hex] at h
  exact absurd h (by decide)
theorem take_two (b : List Int) : ((takeR b).2 = 0 ∨ (takeR b).2 = 6 ∧ (takeR b).1 = []) := by
 unfold takeR
 split
 ·exact .inl rfl
 ·exact .inr ⟨rfl, rfl⟩
theorem take_none {b : List Int} (h : ∀ n r, n < 2 ^ 64 → b ≠ varint n ++ r) : takeR b = ([], 6) := take_no fun l hf hp => by
 obtain ⟨r, _, _, _, e, hl, _⟩ := put_dec hf hp
 exact h l.length r (by omega) e
theorem take_long {n : Nat} {r : List Int} (h : n > 1024) : takeR (varint n ++ r) = ([], 6) := take_no fun l hf hp => by
 obtain ⟨s, _, _, _, e, hl, _⟩ := put_dec hf hp
 have := (varint_inj _ _ _ _ e).1
 omega
theorem take_lax {n : Nat} {r : List Int} (h : decXY decL r n 0 = none) : takeR (varint n ++ r) = ([], 6) := take_no fun l hf hp => by
 obtain ⟨s, xs, ys, q, e, hl, hd, _⟩ := put_dec hf hp
 obtain ⟨rfl, rfl⟩ := varint_inj _ _ _ _ e
 rw [XY_lax _ _ _ hd] at h
 cases h
theorem take_strict {n : Nat} {r : List Int} (h : decXY decS r n 0 = none) : takeR (varint n ++ r) = ([], 6) := take_no fun l hf hp => by
 obtain ⟨s, xs, ys, q, e, hl, hd, _⟩ := put_dec hf hp
 obtain ⟨rfl, rfl⟩ := varint_inj _ _ _ _ e
 rw [hd] at h
 cases h
theorem take_prog {n : Nat} {r : List Int} {xs ys : List Int} {q : Nat} (hb : Byt r) (hn : n ≤ 1024) (h : decXY decS r n 0 = some (xs, ys, q)) :
  takeR (varint n ++ r) = if rightB (zipP (frs 0 0 xs) (frs 0 0 ys)) = true ∧ (q + 7) / 8 = r.length ∧ clr r (q : Int) = true then (zipP (frs 0 0 xs) (frs 0 0 ys), 0) else ([], 6) := by
 obtain ⟨hf, hl, hiff⟩ := dec_put hb hn h
 split
 ·rename_i hc
  exact take_put hf (hiff.1 hc)
 ·rename_i hc
  refine take_no fun l hfl hp => hc (hiff.2 ?_)
  obtain ⟨s, xs', ys', q', e, _, hd, e2⟩ := put_dec hfl hp
  obtain ⟨rfl, rfl⟩ := varint_inj _ _ _ _ e
  rw [h] at hd
  injection hd with hd
  injection hd with h1 hd
  injection hd with h2 h3
  subst h1 h2
  rw [e2]
  exact hp
theorem take_ref {n : Nat} {r : List Int} {xs ys : List Int} {q : Nat} (h : decXY decL r n 0 = some (xs, ys, q)) :
  takeR (varint n ++ r) = if putR (zipP (frs 0 0 xs) (frs 0 0 ys)) = (varint n ++ r, 0) then (zipP (frs 0 0 xs) (frs 0 0 ys), 0) else ([], 6) := by
 split
 ·rename_i hc
  exact take_put (zipP_fit _ _ (frs_fits _ _ _) (frs_fits _ _ _)) hc
 ·rename_i hc
  refine take_no fun l hfl hp => hc ?_
  obtain ⟨s, xs', ys', q', e, _, hd, e2⟩ := put_dec hfl hp
  obtain ⟨rfl, rfl⟩ := varint_inj _ _ _ _ e
  rw [XY_lax _ _ _ hd] at h
  injection h with hd
  injection hd with h1 hd
  injection hd with h2 h3
  subst h1 h2
  rw [e2]
  exact hp
end Go.Proofs.Ythkpnnbjcendcaa.Pure
end
section
namespace Go.Proofs.Ythkpnnbjcendcaa.X
open Go.RowKit Go.Proofs.YthkpnnbjcendcaaW.PrintWords Go.Proofs.YthkpnnbjcendcaaW.PrintLast Go.Proofs.YthkpnnbjcendcaaW.PrintMore
attribute [local go_sem] max2_int min2_int max_two min_two max_three min_three max_four min_four
def lenTab : ByteArray := ⟨(([0, 1, 2, 2, 3, 3, 3, 3, 4, 4, 4, 4, 4, 4, 4, 4, 5, 5, 5, 5, 5, 5, 5, 5, 5, 5, 5, 5, 5, 5, 5, 5, 6, 6, 6, 6, 6, 6, 6, 6, 6, 6, 6, 6, 6, 6, 6, 6, 6, 6, 6, 6, 6, 6, 6, 6, 6, 6, 6, 6, 6, 6, 6, 6, 7, 7, 7, 7, 7, 7, 7, 7, 7, 7, 7, 7, 7, 7, 7, 7, 7, 7, 7, 7, 7, 7, 7, 7, 7, 7, 7, 7, 7, 7, 7, 7, 7, 7, 7, 7, 7, 7, 7, 7, 7, 7, 7, 7, 7, 7, 7, 7, 7, 7, 7, 7, 7, 7, 7, 7, 7, 7, 7, 7, 7, 7, 7, 7] : List UInt8).append [8, 8, 8, 8, 8, 8, 8, 8, 8, 8, 8, 8, 8, 8, 8, 8, 8, 8, 8, 8, 8, 8, 8, 8, 8, 8, 8, 8, 8, 8, 8, 8, 8, 8, 8, 8, 8, 8, 8, 8, 8, 8, 8, 8, 8, 8, 8, 8, 8, 8, 8, 8, 8, 8, 8, 8, 8, 8, 8, 8, 8, 8, 8, 8, 8, 8, 8, 8, 8, 8, 8, 8, 8, 8, 8, 8, 8, 8, 8, 8, 8, 8, 8, 8, 8, 8, 8, 8, 8, 8, 8, 8, 8, 8, 8, 8, 8, 8, 8, 8, 8, 8, 8, 8, 8, 8, 8, 8, 8, 8, 8, 8, 8, 8, 8, 8, 8, 8, 8, 8, 8, 8, 8, 8, 8, 8, 8, 8]).toArray⟩
set_option maxRecDepth 100000 in
theorem lenTab_size : lenTab.size = 256 := rfl
theorem bt_tab (i : Int) (h : i.toNat < lenTab.size) : bt lenTab i = ((lenTab[i.toNat]'h).toNat : Int) := dif_pos h
def bits_Len64.j0 : Nat → Int → Int → Option (Int)
 | 0, _, _ => none
 | k + 1, x0, x2 => if x0 ≥ 65536 then (if (x0 / 65536) ≥ 256 then (if 0 ≤ (((x0 / 65536) / 256) % 256) then (if (((x0 / 65536) / 256) % 256) < 256 then (some (wrap64 ((wrap64 ((wrap64 (x2 + 16)) + 8)) + (wrap64 (bt lenTab (((x0 / 65536) / 256) % 256)))))) else (none)) else (none)) else (if 0 ≤ ((x0 / 65536) % 256) then (if ((x0 / 65536) % 256) < 256 then (some (wrap64 ((wrap64 (x2 + 16)) + (wrap64 (bt lenTab ((x0 / 65536) % 256)))))) else (none)) else (none))) else (if x0 ≥ 256 then (if 0 ≤ ((x0 / 256) % 256) then (if ((x0 / 256) % 256) < 256 then (some (wrap64 ((wrap64 (x2 + 8)) + (wrap64 (bt lenTab ((x0 / 256) % 256)))))) else (none)) else (none)) else (if 0 ≤ ((x0) % 256) then (if ((x0) % 256) < 256 then (some (wrap64 (x2 + (wrap64 (bt lenTab ((x0) % 256)))))) else (none)) else (none)))
def bits_Len64.f (k : Nat) (a0 : Int) : Option (Int) := if a0 ≥ 4294967296 then (bits_Len64.j0 k (a0 / 4294967296) 32) else (bits_Len64.j0 k a0 0)
set_option maxHeartbeats 8000000 in
set_option maxRecDepth 100000 in
theorem bits_Len64.calls (k : Nat) (a0 : Int) (r : Int) (w : World) (h : bits_Len64.f k a0 = some r) :
  Calls Try.prog 99 #[.int .u64 a0] w fun e w' => e = .returned (.int .i64 r) ∧ Drawn0 w w' := by
 have H : (if a0 ≥ 4294967296 then (bits_Len64.j0 k (a0 / 4294967296) 32) else (bits_Len64.j0 k a0 0)) = some r := h
 clear h
 have HC2 := Aside0.mk H
 clear H
 go_enter Try.func99, Try.ntmps99
 go_upto_if 4 with (fail)
 go_cut [0, 2] (fun v0 v2 wc => ∃ (kq : Nat) (x0_1 : Int) (x2_1 : Int), v0 = .int .u64 x0_1 ∧ v2 = .int .i64 x2_1 ∧ Aside0 (bits_Len64.j0 kq x0_1 x2_1 = some r) ∧ Aside0 (kq ≤ k) ∧ Drawn0 w wc)
 case first =>
  have H := HC2.out
  clear HC2
  by_cases c3 : a0 ≥ 4294967296
  ·rw [if_pos c3] at H
   have c3b0 : decide (4294967296 ≤ a0) = true := decide_eq_true c3
   clear c3
   (first | rw [c3b0] | (simp only [i64_w, i32_w]; rw [c3b0]) | skip)
   have H' := Aside0.mk H
   clear H
   go_wp2
   go_meet
   case rel => exact ⟨_, (a0 / 4294967296), (32), (by first | rfl | (simp; done) | (simp [*]; done) | (simp <;> grind)), (by first | rfl | (simp; done) | (simp [*]; done) | (simp <;> grind)), H', ⟨by first | omega | exact Nat.le_refl _⟩, by repeat (first | exact Drawn0.refl _ | apply Drawn0.step)⟩
  ·rw [if_neg c3] at H
   have c3b0 : decide (4294967296 ≤ a0) = false := decide_eq_false c3
   clear c3
   (first | rw [c3b0] | (simp only [i64_w, i32_w]; rw [c3b0]) | skip)
   have H' := Aside0.mk H
   clear H
   go_wp2
   go_meet
   case rel => exact ⟨_, (a0), (0), (by first | rfl | (simp; done) | (simp [*]; done) | (simp <;> grind)), (by first | rfl | (simp; done) | (simp [*]; done) | (simp <;> grind)), H', ⟨by first | omega | exact Nat.le_refl _⟩, by repeat (first | exact Drawn0.refl _ | apply Drawn0.step)⟩
 case rest =>
  clear HC2
  try clear p2
  try clear c3
  try clear c3b0
  obtain ⟨kq, x0_1, x2_1, rfl, rfl, HA, HJ1, ⟨mc1, rfl⟩⟩ := hcut
  cases kq with
  | zero => exact absurd HA.out (by simp [bits_Len64.j0])
  | succ kj1 =>
   have H := HA.out
   clear HA
   simp only [bits_Len64.j0] at H
   by_cases c4 : x0_1 ≥ 65536
   ·rw [if_pos c4] at H
    have c4b0 : decide (65536 ≤ x0_1) = true := decide_eq_true c4
    clear c4
    by_cases c5 : (x0_1 / 65536) ≥ 256
    ·rw [if_pos c5] at H
     have c5b0 : decide (256 ≤ (x0_1 / 65536)) = true := decide_eq_true c5
     clear c5
     obtain ⟨ji6, hji6⟩ : ∃ j_ : Int, (((x0_1 / 65536) / 256) % 256) = j_ := ⟨_, rfl⟩
     replace H : (if 0 ≤ (ji6) then (if (ji6) < 256 then (some (wrap64 ((wrap64 ((wrap64 (x2_1 + 16)) + 8)) + (wrap64 (bt lenTab (ji6)))))) else (none)) else (none)) = some r := by first | (rw [hji6] at H; exact H) | (simp only [hji6] at H ⊢; exact H)
     by_cases c7 : 0 ≤ (ji6)
     ·rw [if_pos c7] at H
      have c7b0 : decide (0 ≤ (ji6)) = true := decide_eq_true c7
      clear c7
      by_cases c8 : (ji6) < 256
      ·rw [if_pos c8] at H
       have c8b0 : decide ((ji6) < 256) = true := decide_eq_true c8
       clear c8
       obtain rfl := Option.some.inj H
       have p9 : 0 ≤ ((ji6) : Int) := of_decide_eq_true (by first | (with_reducible assumption) | assumption)
       have q9 : (ji6) < (256 : Int) := of_decide_eq_true (by first | (with_reducible assumption) | assumption)
       have hx9 := bt_at lenTab (ji6)
       replace p9 := eq_true p9
       replace q9 := eq_true q9
       go_wp2
       go_ret
       exact ⟨by first | (rw [bt_tab _ (show _ < lenTab.size by rw [lenTab_size]; omega)]; rfl) | (simp only [← hji6] <;> (first | rfl | simp)) | (simp [*]; done) | (simp <;> grind), by repeat (first | exact Drawn0.refl _ | apply Drawn0.step)⟩
      ·rw [if_neg c8] at H
       exact absurd H (by simp)
     ·rw [if_neg c7] at H
      exact absurd H (by simp)
    ·rw [if_neg c5] at H
     have c5b0 : decide (256 ≤ (x0_1 / 65536)) = false := decide_eq_false c5
     clear c5
     obtain ⟨ji10, hji10⟩ : ∃ j_ : Int, ((x0_1 / 65536) % 256) = j_ := ⟨_, rfl⟩
     replace H : (if 0 ≤ (ji10) then (if (ji10) < 256 then (some (wrap64 ((wrap64 (x2_1 + 16)) + (wrap64 (bt lenTab (ji10)))))) else (none)) else (none)) = some r := by first | (rw [hji10] at H; exact H) | (simp only [hji10] at H ⊢; exact H)
     by_cases c11 : 0 ≤ (ji10)
     ·rw [if_pos c11] at H
      have c11b0 : decide (0 ≤ (ji10)) = true := decide_eq_true c11
      clear c11
      by_cases c12 : (ji10) < 256
      ·rw [if_pos c12] at H
       have c12b0 : decide ((ji10) < 256) = true := decide_eq_true c12
       clear c12
       obtain rfl := Option.some.inj H
       have p13 : 0 ≤ ((ji10) : Int) := of_decide_eq_true (by first | (with_reducible assumption) | assumption)
       have q13 : (ji10) < (256 : Int) := of_decide_eq_true (by first | (with_reducible assumption) | assumption)
       have hx13 := bt_at lenTab (ji10)
       replace p13 := eq_true p13
       replace q13 := eq_true q13
       go_wp2
       go_ret
       exact ⟨by first | (rw [bt_tab _ (show _ < lenTab.size by rw [lenTab_size]; omega)]; rfl) | (simp only [← hji10] <;> (first | rfl | simp)) | (simp [*]; done) | (simp <;> grind), by repeat (first | exact Drawn0.refl _ | apply Drawn0.step)⟩
      ·rw [if_neg c12] at H
       exact absurd H (by simp)
     ·rw [if_neg c11] at H
      exact absurd H (by simp)
   ·rw [if_neg c4] at H
    have c4b0 : decide (65536 ≤ x0_1) = false := decide_eq_false c4
    clear c4
    by_cases c14 : x0_1 ≥ 256
    ·rw [if_pos c14] at H
     have c14b0 : decide (256 ≤ x0_1) = true := decide_eq_true c14
     clear c14
     obtain ⟨ji15, hji15⟩ : ∃ j_ : Int, ((x0_1 / 256) % 256) = j_ := ⟨_, rfl⟩
     replace H : (if 0 ≤ (ji15) then (if (ji15) < 256 then (some (wrap64 ((wrap64 (x2_1 + 8)) + (wrap64 (bt lenTab (ji15)))))) else (none)) else (none)) = some r := by first | (rw [hji15] at H; exact H) | (simp only [hji15] at H ⊢; exact H)
     by_cases c16 : 0 ≤ (ji15)
     ·rw [if_pos c16] at H
      have c16b0 : decide (0 ≤ (ji15)) = true := decide_eq_true c16
      clear c16
      by_cases c17 : (ji15) < 256
      ·rw [if_pos c17] at H
       have c17b0 : decide ((ji15) < 256) = true := decide_eq_true c17
       clear c17
       obtain rfl := Option.some.inj H
       have p18 : 0 ≤ ((ji15) : Int) := of_decide_eq_true (by first | (with_reducible assumption) | assumption)
       have q18 : (ji15) < (256 : Int) := of_decide_eq_true (by first | (with_reducible assumption) | assumption)
       have hx18 := bt_at lenTab (ji15)
       replace p18 := eq_true p18
       replace q18 := eq_true q18
       go_wp2
       go_ret
       exact ⟨by first | (rw [bt_tab _ (show _ < lenTab.size by rw [lenTab_size]; omega)]; rfl) | (simp only [← hji15] <;> (first | rfl | simp)) | (simp [*]; done) | (simp <;> grind), by repeat (first | exact Drawn0.refl _ | apply Drawn0.step)⟩
      ·rw [if_neg c17] at H
       exact absurd H (by simp)
     ·rw [if_neg c16] at H
      exact absurd H (by simp)
    ·rw [if_neg c14] at H
     have c14b0 : decide (256 ≤ x0_1) = false := decide_eq_false c14
     clear c14
     obtain ⟨ji19, hji19⟩ : ∃ j_ : Int, ((x0_1) % 256) = j_ := ⟨_, rfl⟩
     replace H : (if 0 ≤ (ji19) then (if (ji19) < 256 then (some (wrap64 (x2_1 + (wrap64 (bt lenTab (ji19)))))) else (none)) else (none)) = some r := by first | (rw [hji19] at H; exact H) | (simp only [hji19] at H ⊢; exact H)
     by_cases c20 : 0 ≤ (ji19)
     ·rw [if_pos c20] at H
      have c20b0 : decide (0 ≤ (ji19)) = true := decide_eq_true c20
      clear c20
      by_cases c21 : (ji19) < 256
      ·rw [if_pos c21] at H
       have c21b0 : decide ((ji19) < 256) = true := decide_eq_true c21
       clear c21
       obtain rfl := Option.some.inj H
       have p22 : 0 ≤ ((ji19) : Int) := of_decide_eq_true (by first | (with_reducible assumption) | assumption)
       have q22 : (ji19) < (256 : Int) := of_decide_eq_true (by first | (with_reducible assumption) | assumption)
       have hx22 := bt_at lenTab (ji19)
       replace p22 := eq_true p22
       replace q22 := eq_true q22
       go_wp2
       go_ret
       exact ⟨by first | (rw [bt_tab _ (show _ < lenTab.size by rw [lenTab_size]; omega)]; rfl) | (simp only [← hji19] <;> (first | rfl | simp)) | (simp [*]; done) | (simp <;> grind), by repeat (first | exact Drawn0.refl _ | apply Drawn0.step)⟩
      ·rw [if_neg c21] at H
       exact absurd H (by simp)
     ·rw [if_neg c20] at H
      exact absurd H (by simp)
end Go.Proofs.Ythkpnnbjcendcaa.X
end
section
open Go.RowKit Go.Proofs.Ythkpnnbjcendcaa.X Go.Proofs.Ythkpnnbjcendcaa.Pl Go.Proofs.YthkpnnbjcendcaaW.PrintWords Go.Proofs.YthkpnnbjcendcaaW.PrintLast Go.Proofs.YthkpnnbjcendcaaW.PrintMore
namespace Go.Proofs.Ythkpnnbjcendcaa.Pure
def Long (n L : Nat) : Prop := n < 2 ^ L ∧ (L = 0 ∨ 2 ^ (L - 1) ≤ n)
theorem long_shift {n k L : Nat} (h : Long (n / 2 ^ k) L) (hL : L ≠ 0) : Long n (L + k) := by
 obtain ⟨h1, h2⟩ := h
 refine ⟨?_, .inr ?_⟩
 ·rw [Nat.pow_add]
  exact (Nat.div_lt_iff_lt_mul (Nat.two_pow_pos k)).1 h1
 ·rcases h2 with h2 | h2
  ·exact absurd h2 hL
  ·rw [show L + k - 1 = (L - 1) + k by omega, Nat.pow_add]
   exact (Nat.le_div_iff_mul_le (Nat.two_pow_pos k)).1 h2
def tabN (x : Nat) : Nat := if x = 0 then 0 else if x < 2 then 1 else if x < 4 then 2 else if x < 8 then 3 else if x < 16 then 4 else if x < 32 then 5 else if x < 64 then 6 else if x < 128 then 7 else 8
set_option maxRecDepth 100000 in
theorem tab_all : ∀ x : Nat, x < 256 → Go.Proofs.YthkpnnbjcendcaaW.PrintWords.bt lenTab (x : Int) = ((tabN x : Nat) : Int) := by decide +kernel
theorem tab_long {x : Nat} (h : x < 256) : Long x (tabN x) := by
 unfold tabN Long
 (repeat' split) <;> simp <;> omega
theorem tab_pos {x : Nat} (h : 0 < x) : tabN x ≠ 0 := by
 unfold tabN
 (repeat' split) <;> omega
theorem tab_le (x : Nat) : tabN x ≤ 8 := by
 unfold tabN
 (repeat' split) <;> omega
theorem len_j0 (k : Nat) (x : Nat) (z : Nat) (hx : x < 4294967296) (hz : z ≤ 32) : ∃ L : Nat, bits_Len64.j0 (k + 1) (x : Int) (z : Int) = some ((z + L : Nat) : Int) ∧ Long x L ∧ L ≤ 32 := by
 rw [bits_Len64.j0]
 by_cases c0 : x ≥ 65536
 ·rw [if_pos (by omega)]
  by_cases c1 : x / 65536 ≥ 256
  ·rw [if_pos (by omega)]
   have e : ((x : Int) / 65536 / 256) % 256 = ((x / 2 ^ 24 : Nat) : Int) := by omega
   rw [e, if_pos (by omega), if_pos (by omega), tab_all _ (by omega)]
   have hp := tab_pos (x := x / 2 ^ 24) (by omega)
   have h8 := tab_le (x / 2 ^ 24)
   have hl := long_shift (tab_long (x := x / 2 ^ 24) (by omega)) hp
   generalize tabN (x / 2 ^ 24) = t at *
   refine ⟨t + 24, ?_, hl, by omega⟩
   rw [w64 (x := (z : Int) + 16) (by omega) (by omega), w64 (x := (z : Int) + 16 + 8) (by omega) (by omega), w64 (x := (t : Int)) (by omega) (by omega), w64 (by omega) (by omega)]
   congr 1
   omega
  ·rw [if_neg (by omega)]
   have e : ((x : Int) / 65536) % 256 = ((x / 2 ^ 16 : Nat) : Int) := by omega
   rw [e, if_pos (by omega), if_pos (by omega), tab_all _ (by omega)]
   have hp := tab_pos (x := x / 2 ^ 16) (by omega)
   have h8 := tab_le (x / 2 ^ 16)
   have hl := long_shift (tab_long (x := x / 2 ^ 16) (by omega)) hp
   generalize tabN (x / 2 ^ 16) = t at *
   refine ⟨t + 16, ?_, hl, by omega⟩
   rw [w64 (x := (z : Int) + 16) (by omega) (by omega), w64 (x := (t : Int)) (by omega) (by omega), w64 (by omega) (by omega)]
   congr 1
   omega
 ·rw [if_neg (by omega)]
  by_cases c1 : x ≥ 256
  ·rw [if_pos (by omega)]
   have e : ((x : Int) / 256) % 256 = ((x / 2 ^ 8 : Nat) : Int) := by omega
   rw [e, if_pos (by omega), if_pos (by omega), tab_all _ (by omega)]
   have hp := tab_pos (x := x / 2 ^ 8) (by omega)
   have h8 := tab_le (x / 2 ^ 8)
   have hl := long_shift (tab_long (x := x / 2 ^ 8) (by omega)) hp
   generalize tabN (x / 2 ^ 8) = t at *
   refine ⟨t + 8, ?_, hl, by omega⟩
   rw [w64 (x := (z : Int) + 8) (by omega) (by omega), w64 (x := (t : Int)) (by omega) (by omega), w64 (by omega) (by omega)]
   congr 1
   omega
  ·rw [if_neg (by omega)]
   have e : (x : Int) % 256 = (x : Int) := by omega
   rw [e, if_pos (by omega), if_pos (by omega), tab_all _ (by omega)]
   have h8 := tab_le x
   have hl := tab_long (x := x) (by omega)
   generalize tabN x = t at *
   refine ⟨t, ?_, hl, by omega⟩
   rw [w64 (x := (t : Int)) (by omega) (by omega), w64 (by omega) (by omega)]
   congr 1
theorem len_ev (k : Nat) (n : Nat) (hn : n < 2 ^ 64) : ∃ L : Nat, bits_Len64.f (k + 1) (n : Int) = some (L : Int) ∧ Long n L ∧ L ≤ 64 := by
 unfold bits_Len64.f
 by_cases c : n ≥ 4294967296
 ·rw [if_pos (by omega)]
  obtain ⟨L, h1, h2, h3⟩ := len_j0 k (n / 2 ^ 32) 32 (by omega) (by decide)
  rw [show (n : Int) / 4294967296 = ((n / 2 ^ 32 : Nat) : Int) by omega]
  have hL : L ≠ 0 := by
   rintro rfl
   have := h2.1
   simp at this
   omega
  refine ⟨L + 32, ?_, long_shift h2 hL, by omega⟩
  rw [show (32 : Int) = ((32 : Nat) : Int) from rfl, h1]
  congr 2
  omega
 ·rw [if_neg (by omega)]
  obtain ⟨L, h1, h2, h3⟩ := len_j0 k n 0 (by omega) (by decide)
  refine ⟨L, ?_, h2, by omega⟩
  rw [show (0 : Int) = ((0 : Nat) : Int) from rfl, h1, Nat.zero_add]
theorem long_groups {n L i : Nat} (h : Long n L) (hn : n < 2 ^ (7 * (i + 1))) : i + 1 = max 1 ((L + 6) / 7) ↔ i = 0 ∨ 2 ^ (7 * i) ≤ n := by
 obtain ⟨h1, h2⟩ := h
 have hle : L ≤ 7 * (i + 1) := by
  rcases h2 with rfl | h2
  ·omega
  ·have := Nat.lt_of_le_of_lt h2 hn
   have := (Nat.pow_lt_pow_iff_right (by decide)).1 this
   omega
 by_cases hb : 2 ^ (7 * i) ≤ n
 ·have := (Nat.pow_lt_pow_iff_right (by decide)).1 (Nat.lt_of_le_of_lt hb h1)
  omega
 ·have : L ≤ 7 * i := by
   rcases h2 with rfl | h2
   ·omega
   ·have := (Nat.pow_lt_pow_iff_right (by decide)).1 (Nat.lt_of_le_of_lt h2 (Nat.lt_of_not_le hb))
    omega
  omega
def Some7 (b : List Int) (i acc : Nat) : Prop := acc < 128 ^ i ∧ ∀ m r, b = varint m ++ r ↔ ∃ q, m = acc + 128 ^ i * q ∧ (i = 0 ∨ 0 < q) ∧ b.drop i = varint q ++ r
theorem some_start (b : List Int) : Some7 b 0 0 := by
 refine ⟨by decide, fun m r => ⟨fun h => ⟨m, by simp, .inl rfl, by simpa using h⟩, ?_⟩⟩
 rintro ⟨q, h1, _, h3⟩
 have : m = q := by simpa using h1
 subst this
 simpa using h3
theorem drop_at {b : List Int} {i : Nat} {c : Nat} (hi : i < b.length) (hc : b.getD i 0 = (c : Int)) : b.drop i = (c : Int) :: b.drop (i + 1) := by
 rw [List.drop_eq_getElem_cons hi, ← hc, List.getD_eq_getElem?_getD, List.getElem?_eq_getElem hi]
 rfl
theorem some_more {b : List Int} {i acc c : Nat} (h : Some7 b i acc) (hi : i < b.length) (hc : b.getD i 0 = (c : Int)) (hc1 : 128 ≤ c) (hc2 : c < 256) : Some7 b (i + 1) (acc + (c % 128) * 128 ^ i) := by
 obtain ⟨h1, h2⟩ := h
 have hcm : c % 128 = c - 128 := by omega
 refine ⟨?_, fun m r => ?_⟩
 ·have : c % 128 ≤ 127 := by omega
  have := Nat.mul_le_mul_right (128 ^ i) this
  rw [Nat.pow_succ]
  omega
 ·rw [h2 m r, drop_at hi hc]
  constructor
  ·rintro ⟨q, e1, e2, e3⟩
   by_cases hq : q < 128
   ·rw [varint_small hq] at e3
    simp only [List.cons_append, List.nil_append, List.cons.injEq] at e3
    omega
   ·rw [varint_big hq] at e3
    simp only [List.cons_append, List.cons.injEq] at e3
    refine ⟨q / 128, ?_, .inr (by omega), e3.2⟩
    have e4 : q = c % 128 + 128 * (q / 128) := by omega
    rw [e1, Nat.pow_succ]
    conv => lhs; rw [e4]
    rw [Nat.mul_add, Nat.mul_comm (128 ^ i) (c % 128), Nat.mul_assoc (128 ^ i) 128, Nat.add_assoc]
  ·rintro ⟨q, e1, e2, e3⟩
   refine ⟨c % 128 + 128 * q, ?_, .inr (by omega), ?_⟩
   ·rw [e1, Nat.pow_succ, Nat.mul_add, Nat.mul_comm (128 ^ i) (c % 128), Nat.mul_assoc (128 ^ i) 128, Nat.add_assoc]
   ·rw [varint_big (by omega), show (c % 128 + 128 * q) / 128 = q by omega, show (c % 128 + 128 * q) % 128 + 128 = c by omega, e3]
    rfl
theorem some_end {b : List Int} {i acc c : Nat} (h : Some7 b i acc) (hi : i < b.length) (hc : b.getD i 0 = (c : Int)) (hc1 : c < 128) (m : Nat) (r : List Int) : b = varint m ++ r ↔ m = acc + c * 128 ^ i ∧ (i = 0 ∨ 0 < c) ∧ r = b.drop (i + 1) := by
 rw [h.2 m r, drop_at hi hc]
 constructor
 ·rintro ⟨q, e1, e2, e3⟩
  by_cases hq : q < 128
  ·rw [varint_small hq] at e3
   simp only [List.cons_append, List.nil_append, List.cons.injEq] at e3
   have : q = c := by omega
   subst this
   exact ⟨by rw [e1, Nat.mul_comm], e2, e3.2.symm⟩
  ·rw [varint_big hq] at e3
   simp only [List.cons_append, List.cons.injEq] at e3
   omega
 ·rintro ⟨e1, e2, e3⟩
  exact ⟨c, by rw [e1, Nat.mul_comm], e2, by rw [varint_small hc1, e3]; rfl⟩
theorem varint_ne (q : Nat) (r : List Int) : varint q ++ r ≠ [] := by
 by_cases h : q < 128
 ·rw [varint_small h]; simp
 ·rw [varint_big h]; simp
theorem some_out {b : List Int} {i acc : Nat} (h : Some7 b i acc) (hi : b.length ≤ i) (m : Nat) (r : List Int) : b ≠ varint m ++ r := by
 intro e
 obtain ⟨q, _, _, e3⟩ := (h.2 m r).1 e
 rw [List.drop_of_length_le hi] at e3
 exact varint_ne _ _ e3.symm
theorem some_ten {b : List Int} {acc c : Nat} (h : Some7 b 9 acc) (hi : 9 < b.length) (hc : b.getD 9 0 = (c : Int)) (hc1 : 1 < c) (hc2 : c < 256) (m : Nat) (r : List Int) (hm : m < 2 ^ 64) : b ≠ varint m ++ r := by
 intro e
 by_cases hc3 : c < 128
 ·have := ((some_end h hi hc hc3 m r).1 e).1
  have h9 : (128 : Nat) ^ 9 = 9223372036854775808 := by decide
  rw [h9] at this
  omega
 ·obtain ⟨q, e1, e2, _⟩ := ((some_more h hi hc (by omega) hc2).2 m r).1 e
  have h9 : (128 : Nat) ^ (9 + 1) = 1180591620717411303424 := by decide
  rw [h9] at e1
  omega
theorem low7_all : ∀ x, x < 256 → (x &&& (255 - 128)) = x % 128 := by decide +kernel
theorem low7 {c : Nat} (h : c < 256) : Go.bits .andNot .u8 (c : Int) 128 = ((c % 128 : Nat) : Int) := by
 have := u8_andNot_nat c 128 h (by decide)
 rw [low7_all c h] at this
 exact this
theorem high_all : ∀ x, x < 256 → (x &&& 128) = if x < 128 then 0 else 128 := by decide +kernel
theorem high1 {c : Nat} (h : c < 256) : Go.bits .and .u8 (c : Int) 128 = if c < 128 then 0 else 128 := by
 have := (bits_nat .u8 8 (by decide) wraps_u8 c 128 h (by decide)).1
 rw [high_all c h] at this
 rw [show (128 : Int) = ((128 : Nat) : Int) from rfl, this]
 split <;> rfl
theorem or_add {acc i c : Nat} (ha : acc < 2 ^ (7 * i)) (hc : c * 2 ^ (7 * i) < 2 ^ 64) (hi : i ≤ 9) : Go.bits .or .u64 (acc : Int) (shl .u64 (c : Int) ((7 * i : Nat) : Int)) = ((acc + c * 2 ^ (7 * i) : Nat) : Int) := by
 have e1 : min ((7 * i : Nat) : Int).toNat IntKind.u64.bits = 7 * i := by
  rw [Int.toNat_natCast]; exact Nat.min_eq_left (by show _ ≤ 64; omega)
 have hcc : (c : Int) * 2 ^ (7 * i) = ((c * 2 ^ (7 * i) : Nat) : Int) := by simp
 unfold shl
 rw [e1, hcc, w_u64 (Int.natCast_nonneg _) (by exact_mod_cast hc)]
 have h64 : acc < 2 ^ 64 := Nat.lt_of_lt_of_le ha (Nat.pow_le_pow_right (by decide) (by omega))
 have := (bits_nat .u64 64 (by decide) (fun n h0 h1 => w_u64 h0 h1) acc (c * 2 ^ (7 * i)) h64 hc).2
 rw [this, Nat.or_comm, Nat.mul_comm, ← Nat.two_pow_add_eq_or_of_lt ha, Nat.add_comm]
end Go.Proofs.Ythkpnnbjcendcaa.Pure
end
