/- A block as bytes, as a plain function: what the program lays, and what the reference does. -/
import Derived.Test.YthkpnnbjcendcaaPstQc
import Derived.Test.YthkpnnbjcendcaaPbkQc
import Derived.Test.YthkpnnbjcendcaaXgQc
import Derived.Test.YthkpnnbjcendcaaX85Qc
import Derived.Test.YthkpnnbjcendcaaX86Qc
import Derived.Test.YthkpnnbjcendcaaX88Qc
import Derived.Test.YthkpnnbjcendcaaX91Qc
import Derived.Test.YthkpnnbjcendcaaX92Qc
import Derived.Test.YthkpnnbjcendcaaX93Qc
import Derived.Test.YthkpnnbjcendcaaX95Qc
import Derived.Test.YthkpnnbjcendcaaX96Qc
import Derived.Test.YthkpnnbjcendcaaX97Qc
set_option linter.unusedVariables false
set_option linter.unusedSimpArgs false
open Go.RowKit Go.Proofs.Ythkpnnbjcendcaa.X Go.Proofs.Ythkpnnbjcendcaa.Pl Go.Proofs.YthkpnnbjcendcaaW.PrintWords Go.Proofs.YthkpnnbjcendcaaW.PrintLast Go.Proofs.YthkpnnbjcendcaaW.PrintMore
namespace Go.Proofs.Ythkpnnbjcendcaa.Pure
theorem bytesOf_str {xs : List Int} (h : Byt xs) : bytesOf (strOfNums xs) = xs := by
  unfold bytesOf
  rw [strOfNums_data, List.map_map]
  conv => rhs; rw [← List.map_id xs]
  refine List.map_congr_left fun n hn => ?_
  have := h n hn
  simp only [Function.comp, id]
  rw [UInt8.toNat_ofNat']
  omega
/-- A chunk, as bytes. -/
def chB (c : S109) : List Int := varint c.f0.toNat ++ varint (putB c.f1).length ++ putB c.f1
/-- Chunks, as bytes. -/
def bodyC (l : List S109) : List Int := varint l.length ++ l.flatMap chB
/-- A block of chunks, as bytes. -/
def bputR (l : List S109) : List Int × Int := if rightC l = true then (sealL (bodyC l), 0) else ([], 1)
theorem putB_byt (l : List S52) : Byt (putB l) := fun x hx => by
  unfold putB at hx
  rcases List.mem_append.1 hx with h | h
  · exact varint_byt _ x h
  · exact byt_pack _ x h
theorem chB_byt (c : S109) : Byt (chB c) := fun x hx => by
  unfold chB at hx
  rcases List.mem_append.1 hx with h | h
  · rcases List.mem_append.1 h with h | h
    · exact varint_byt _ x h
    · exact varint_byt _ x h
  · exact putB_byt _ x h
theorem bodyC_byt (l : List S109) : Byt (bodyC l) := fun x hx => by
  unfold bodyC at hx
  rcases List.mem_append.1 hx with h | h
  · exact varint_byt _ x h
  · obtain ⟨c, _, hc⟩ := List.mem_flatMap.1 h
    exact chB_byt c x hc
theorem varint_len64 {n : Nat} (h : n < 2 ^ 64) : 1 ≤ (varint n).length ∧ (varint n).length ≤ 10 := Sc.varint_le 9 n (Nat.lt_of_lt_of_le h (by decide))
theorem putB_len {l : List S52} (h : l.length ≤ 1024) : (putB l).length ≤ 20000 := by
  have h1 := marksP_length l 0 0 0 0
  have h2 := (varint_len64 (n := l.length) (by omega)).2
  unfold putB
  rw [List.length_append, pack_length]
  omega
/-- What is right of a chunk. -/
structure OkC (c : S109) : Prop where
  id0 : 0 ≤ c.f0
  id1 : c.f0 < 4096
  n0 : 1 ≤ c.f1.length
  n1 : c.f1.length ≤ 1024
  up : rightB c.f1 = true
theorem okCs_all : ∀ (p : Int) (l : List S109), -1 ≤ p → okCs p l = true → ∀ c ∈ l, OkC c
  | _, [], _, _ => fun c hc => by cases hc
  | p, d :: l, hp, h => by
    rw [okCs] at h
    simp only [Bool.and_eq_true, decide_eq_true_eq] at h
    obtain ⟨⟨⟨⟨⟨h1, h2⟩, h3⟩, h4⟩, h5⟩, h6⟩ := h
    intro c hc
    rcases List.mem_cons.1 hc with rfl | hc
    · exact ⟨by omega, h2, h3, h4, h5⟩
    · exact okCs_all d.f0 l (by omega) h6 c hc
theorem rightC_all {l : List S109} (h : rightC l = true) : (∀ c ∈ l, OkC c) ∧ 1 ≤ l.length ∧ l.length ≤ 200 := by
  unfold rightC at h
  simp only [Bool.and_eq_true, decide_eq_true_eq] at h
  exact ⟨okCs_all (-1) l (by omega) h.1.1, h.1.2, h.2⟩
theorem putR_ok {c : S109} (h : OkC c) : putR c.f1 = (putB c.f1, 0) := by
  unfold putR
  rw [if_neg (by have := h.n1; omega), if_neg (by rw [h.up]; decide)]
theorem chB_len {c : S109} (h : OkC c) : (chB c).length ≤ 20020 := by
  have h1 := (varint_len64 (n := c.f0.toNat) (by have := h.id1; omega)).2
  have h3 := putB_len h.n1
  have h2 := (varint_len64 (n := (putB c.f1).length) (by omega)).2
  unfold chB
  rw [List.length_append, List.length_append]
  omega
theorem flat_len : ∀ (l : List S109), (∀ c ∈ l, OkC c) → (l.flatMap chB).length ≤ 20020 * l.length
  | [], _ => by simp
  | c :: l, h => by
    rw [List.flatMap_cons, List.length_append, List.length_cons]
    have h1 := chB_len (h c List.mem_cons_self)
    have h2 := flat_len l (fun d hd => h d (List.mem_cons_of_mem _ hd))
    omega
theorem bodyC_len {l : List S109} (h : rightC l = true) : (bodyC l).length ≤ 4004010 := by
  obtain ⟨h1, h2, h3⟩ := rightC_all h
  have := flat_len l h1
  have h4 := (varint_len64 (n := l.length) (by omega)).2
  unfold bodyC
  rw [List.length_append]
  omega
/-! ### The program's -/
theorem bright_from (l : List S109) (hl : l.length < 1000000000) (hE : ∀ c ∈ l, c.f1.length < 1000000000) (d : Nat) : ∀ (i : Nat) (p : Int), l.length - i = d → i ≤ l.length →
    Ev (fun k => block_Right.l0 k l p l (l.length : Int) (i : Int)) (okCs p (l.drop i) && decide (1 ≤ l.length) && decide (l.length ≤ 200)) := by
  induction d with
  | zero =>
    intro i p hd hi
    refine ev_succ (fun k => by rw [block_Right.l0]) (ev_neg (by omega) ?_)
    rw [List.drop_eq_nil_of_le (by omega), okCs, Bool.true_and]
    by_cases h1 : 1 ≤ l.length
    · refine ev_pos (by omega) (ev_eq (Ev.now _) ?_)
      rw [decide_eq_true h1, Bool.true_and]
      by_cases h2 : l.length ≤ 200
      · rw [decide_eq_true h2, decide_eq_true (by omega)]
      · rw [decide_eq_false h2, decide_eq_false (by omega)]
    · refine ev_neg (by omega) (ev_eq (Ev.now _) ?_)
      rw [decide_eq_false h1, Bool.false_and]
  | succ d ih =>
    intro i p hd hi
    have hlt : i < l.length := by omega
    have hw : wrap64 ((i : Int) + 1) = ((i + 1 : Nat) : Int) := by rw [w64 (by omega) (by omega)]; omega
    rw [okCs_step hlt]
    have hc := hE _ (List.getElem_mem hlt)
    refine ev_succ (fun k => by rw [block_Right.l0]) (ev_pos (by omega) (ev_pos (by omega) (ev_pos (by omega) ?_)))
    rw [rd109_at l i hlt, hw]
    by_cases c1 : l[i].f0 ≤ p
    · exact ev_pos c1 (ev_eq (Ev.now _) (by rw [decide_eq_false (show ¬ p < l[i].f0 by omega)]; simp))
    · refine ev_neg c1 ?_
      rw [decide_eq_true (show p < l[i].f0 by omega)]
      by_cases c2 : l[i].f0 ≥ 4096
      · exact ev_pos c2 (ev_eq (Ev.now _) (by rw [decide_eq_false (show ¬ l[i].f0 < 4096 by omega)]; simp))
      · refine ev_neg c2 ?_
        rw [decide_eq_true (show l[i].f0 < 4096 by omega)]
        by_cases c3 : l[i].f1.length = 0
        · exact ev_pos (by omega) (ev_eq (Ev.now _) (by rw [decide_eq_false (show ¬ 1 ≤ l[i].f1.length by omega)]; simp))
        · refine ev_neg (by omega) ?_
          rw [decide_eq_true (show 1 ≤ l[i].f1.length by omega)]
          by_cases c4 : l[i].f1.length ≤ 1024
          · refine ev_neg (by omega) (ev_bind (right_ev l[i].f1 (by omega)) ?_)
            rw [decide_eq_true c4]
            cases hr : rightB l[i].f1
            · exact ev_neg (by simp) (ev_eq (Ev.now _) (by simp))
            · refine ev_pos rfl (ev_eq (ih (i + 1) l[i].f0 (by omega) (by omega)) ?_)
              simp
          · exact ev_pos (by omega) (ev_eq (Ev.now _) (by rw [decide_eq_false c4]; simp))
theorem bright_ev (l : List S109) (hl : l.length < 1000000000) (hE : ∀ c ∈ l, c.f1.length < 1000000000) : Ev (fun k => block_Right.f k l) (rightC l) := bright_from l hl hE _ 0 (-1) rfl (Nat.zero_le _)
theorem oput_f {b : List Int} {n : Nat} (h : b.length ≤ 100000000) (hn : n < 2 ^ 64) : octs_Put.f b (n : Int) = some (b ++ varint n) := by
  unfold octs_Put.f
  rw [if_pos ⟨h, by omega, by omega⟩, Int.toNat_natCast]
theorem otext_f {b p : List Int} (h : b.length ≤ 50000000) (hp : p.length ≤ 1000000) (hb : Byt p) : octs_PutText.f b (strOfNums p) = some (b ++ varint p.length ++ p) := by
  unfold octs_PutText.f
  have hv := (varint_len64 (n := p.length) (by omega)).2
  rw [strOfNums_size, w_u64 (by omega) (by omega), oput_f (by omega) (by omega), Option.bind_some, List.length_append, if_pos (by omega), bytesOf_str hb]
theorem seal_f {b : List Int} (h : b.length ≤ 10000000) (hb : Byt b) : seal_Put.f b = some (sealL b) := by
  unfold seal_Put.f
  have hv := (varint_len64 (n := b.length) (by omega)).2
  have hy : Byt (varint b.length ++ b) := fun x hx => (List.mem_append.1 hx).elim (varint_byt _ x) (hb x)
  have hs : seal_Sum.f (varint b.length ++ b) = some (sumN (varint b.length ++ b) : Int) := if_pos ⟨by rw [List.length_append]; omega, (bytB_iff _).2 hy⟩
  rw [w_u64 (by omega) (by omega), oput_f (by simp) (by omega), Option.bind_some, List.nil_append, if_pos (by omega), Option.bind_some, hs, Option.bind_some, Option.bind_some, if_pos (by rw [List.length_append]; simp; omega)]
  unfold sealL footL
  have hl := sumN_lt hy
  congr 3 <;> simp
/-! ### The reference's -/
theorem rtext_ev {b p : List Int} (h : b.length ≤ 50000000) (hp : p.length ≤ 1000000) (hb : Byt p) : Ev (fun k => marigraphref01_PutText.f k b (strOfNums p)) (b ++ varint p.length ++ p) := by
  unfold marigraphref01_PutText.f
  have hv := (varint_len64 (n := p.length) (by omega)).2
  rw [strOfNums_size, w_u64 (by omega) (by omega)]
  refine ev_bind (ref_put_ev b p.length (by omega) (by omega)) (ev_pos (by rw [List.length_append]; omega) (ev_eq (Ev.now _) ?_))
  rw [bytesOf_str hb]
theorem rsum_in (b : List Int) (r : Int) (i : Nat) (d : Nat) : ∀ (k s : Nat), 8 - k = d → k ≤ 8 → s < 4294967296 → Ev (fun q => marigraphref03_Sum.l0 q b ((crcK d s : Nat) : Int) (wrap64 ((i : Int) + 1))) r → Ev (fun q => marigraphref03_Sum.l1 q b (s : Int) (i : Int) (k : Int)) r := by
  induction d with
  | zero =>
    intro k s hd hk hs h
    refine ev_succ (fun q => by rw [marigraphref03_Sum.l1]) (ev_neg (by omega) ?_)
    rw [crcK_zero] at h
    exact h
  | succ d ih =>
    intro k s hd hk hs h
    have hw : wrap64 ((k : Int) + 1) = ((k + 1 : Nat) : Int) := by rw [w64 (by omega) (by omega)]; omega
    rw [crcK_one] at h
    refine ev_succ (fun q => by rw [marigraphref03_Sum.l1]) (ev_pos (by omega) ?_)
    rw [hw]
    have := ih (k + 1) (crc1 s) (by omega) (by omega) (crc1_lt hs) h
    by_cases c : s < 2147483648
    · refine ev_pos (by omega) ?_
      have e : 2 * (s : Int) % 4294967296 = ((crc1 s : Nat) : Int) := by unfold crc1; rw [if_pos c]; omega
      rw [e]
      exact this
    · refine ev_neg (by omega) ?_
      have e : Go.bits .xor .u32 ((2 * (((s : Int) - 2147483648) % 4294967296)) % 4294967296) 79764919 = ((crc1 s : Nat) : Int) := by
        have e1 : (2 * (((s : Int) - 2147483648) % 4294967296)) % 4294967296 = ((2 * (s - 2147483648) : Nat) : Int) := by omega
        rw [e1]
        have := u32_xor_nat (2 * (s - 2147483648)) 79764919 (by omega) (by decide)
        unfold crc1
        rw [if_neg c]
        exact this
      rw [e]
      exact this
theorem rsum_out (b : List Int) (hb : Byt b) (hl : b.length < 4611686018427387904) (d : Nat) : ∀ i : Nat, b.length - i = d → i ≤ b.length → Ev (fun q => marigraphref03_Sum.l0 q b ((crcL 4294967295 (b.take i) : Nat) : Int) (i : Int)) (sumN b : Int) := by
  induction d with
  | zero =>
    intro i hd hi
    refine ev_succ (fun q => by rw [marigraphref03_Sum.l0]) (ev_neg (by omega) (ev_eq (Ev.now _) ?_))
    rw [List.take_of_length_le (by omega)]
    have := u32_xor_nat (crcL 4294967295 b) 4294967295 (crcL_lt hb (by decide)) (by decide)
    unfold sumN
    exact this
  | succ d ih =>
    intro i hd hi
    have hlt : i < b.length := by omega
    have hw : wrap64 ((i : Int) + 1) = ((i + 1 : Nat) : Int) := by rw [w64 (by omega) (by omega)]; omega
    have hbi := hb b[i] (List.getElem_mem hlt)
    have hs := crcL_lt (b := b.take i) (fun y hy => hb y (List.mem_of_mem_take hy)) (s := 4294967295) (by decide)
    have h := ih (i + 1) (by omega) (by omega)
    rw [crcL_take_succ _ _ _ hlt] at h
    refine ev_succ (fun q => by rw [marigraphref03_Sum.l0]) (ev_pos (by omega) (ev_pos (by omega) ?_))
    have er : rd b (i : Int) = b[i] := by rw [rd_get, getD_lt _ _ _ hlt]
    have e1 : ((b[i] % 4294967296) * 16777216) % 4294967296 = ((b[i].toNat * 16777216 : Nat) : Int) := by omega
    rw [er, e1, u32_xor_nat _ _ hs (by omega)]
    refine rsum_in b _ i 8 0 _ rfl (by omega) (Nat.xor_lt_two_pow (n := 32) hs (by omega)) ?_
    rw [hw]
    exact h
theorem rsum_ev (b : List Int) (hb : Byt b) (hl : b.length < 4611686018427387904) : Ev (fun q => marigraphref03_Sum.f q b) (sumN b : Int) := by
  have := rsum_out b hb hl _ 0 rfl (Nat.zero_le _)
  rw [List.take_zero, crcL_nil] at this
  exact this
theorem rseal_ev {b : List Int} (h : b.length ≤ 10000000) (hb : Byt b) : Ev (fun k => marigraphref03_Put.f k b) (sealL b) := by
  unfold marigraphref03_Put.f
  have hv := (varint_len64 (n := b.length) (by omega)).2
  have hy : Byt (varint b.length ++ b) := fun x hx => (List.mem_append.1 hx).elim (varint_byt _ x) (hb x)
  rw [w_u64 (by omega) (by omega)]
  refine ev_bind (ref_put_ev [] b.length (by simp) (by omega)) (ev_pos (by rw [List.nil_append]; omega) (ev_some ?_))
  rw [List.nil_append]
  refine ev_bind (rsum_ev _ hy (by rw [List.length_append]; omega)) (ev_some (ev_pos (by rw [List.length_append]; simp; omega) (ev_eq (Ev.now _) ?_)))
  have hl := sumN_lt hy
  have hs : 0 ≤ ((sumN (varint b.length ++ b) : Nat) : Int) := by omega
  unfold sealL footL
  rw [tdiv_pos hs, tdiv_pos hs, tdiv_pos hs, tmod_pos hs]
  congr 1
  generalize sumN (varint b.length ++ b) = s at *
  simp only [List.cons.injEq, and_true]
  omega
/-! ### Ids -/
def idL (s : Int) (l : List Int) : Int := l.foldl (fun h c => IntKind.u64.wrap ((Go.bits .xor .u64 h (IntKind.u64.wrap c)) * 1099511628211)) s
theorem id_from (l : List Int) (hl : l.length < 9223372036854775807) (d : Nat) : ∀ (i : Nat) (s : Int), l.length - i = d → i ≤ l.length → Ev (fun k => seal_Id.l0 k s l (l.length : Int) (i : Int)) (idL s (l.drop i)) ∧ Ev (fun k => marigraphref03_Id.l0 k s l (i : Int)) (idL s (l.drop i)) := by
  induction d with
  | zero =>
    intro i s hd hi
    rw [List.drop_eq_nil_of_le (by omega)]
    have e : idL s [] = s := rfl
    rw [e]
    exact ⟨ev_succ (fun k => by rw [seal_Id.l0]) (ev_neg (by omega) (Ev.now _)), ev_succ (fun k => by rw [marigraphref03_Id.l0]) (ev_neg (by omega) (Ev.now _))⟩
  | succ d ih =>
    intro i s hd hi
    have hlt : i < l.length := by omega
    have hw : wrap64 ((i : Int) + 1) = ((i + 1 : Nat) : Int) := by rw [w64 (by omega) (by omega)]; omega
    have er : rd l (i : Int) = l[i] := by rw [rd_get, getD_lt _ _ _ hlt]
    have h := ih (i + 1) (IntKind.u64.wrap ((Go.bits .xor .u64 s (IntKind.u64.wrap l[i])) * 1099511628211)) (by omega) (by omega)
    rw [List.drop_eq_getElem_cons hlt]
    constructor
    · refine ev_succ (fun k => by rw [seal_Id.l0]) (ev_pos (by omega) (ev_pos (by omega) (ev_pos (by omega) ?_)))
      rw [er, hw]
      exact h.1
    · refine ev_succ (fun k => by rw [marigraphref03_Id.l0]) (ev_pos (by omega) (ev_pos (by omega) ?_))
      rw [er, hw]
      exact h.2
theorem ids_ev {b : List Int} (h : b.length ≤ 10000000) (hb : Byt b) : ∃ r, Ev (fun k => block_Id.f k b) r ∧ Ev (fun k => marigraphref03_Id.f k b) r := by
  have hv := (varint_len64 (n := b.length) (by omega)).2
  have hl : (sealL b).length < 9223372036854775807 := by unfold sealL footL; rw [List.length_append, List.length_append]; simp; omega
  have hid := id_from (sealL b) hl _ 0 14695981039346656037 rfl (Nat.zero_le _)
  refine ⟨idL 14695981039346656037 (sealL b), ?_, ?_⟩
  · unfold block_Id.f seal_Id.f
    refine ev_bind (ev_const (seal_f h hb) hid.1) (Ev.now _)
  · unfold marigraphref03_Id.f
    exact ev_bind (rseal_ev h hb) hid.2
end Go.Proofs.Ythkpnnbjcendcaa.Pure

