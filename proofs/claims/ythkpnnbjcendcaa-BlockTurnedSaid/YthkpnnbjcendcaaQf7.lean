/- What the law leans on, part 7: Pbb, Spp, Ssm, Bpt, Rbp, Pd, Pdp, L64, Pnu, Ot, Onu, Stk, Pop. -/
import Derived.Test.YthkpnnbjcendcaaQf6
import Derived.Laws.BitsAllLaws
section
/- A block as bytes, as a plain function: what the program lays, and what the reference does. -/
set_option linter.unusedVariables false
set_option linter.unusedSimpArgs false
open Go.RowKit Go.Proofs.Ythkpnnbjcendcaa.X Go.Proofs.Ythkpnnbjcendcaa.Pl Go.Proofs.YthkpnnbjcendcaaW.PrintWords Go.Proofs.YthkpnnbjcendcaaW.PrintLast Go.Proofs.YthkpnnbjcendcaaW.PrintMore
namespace Go.Proofs.Ythkpnnbjcendcaa.Pure
theorem bytesOf_str {xs : List Int} (h : Byt xs) : bytesOf (strOfNums xs) = xs := by
  unfold bytesOf
  rw [strOfNums_data, List.map_map]
  conv => rhs; rw [← List.map_id xs]
  refine List.map_congr_left fun n hn => ?_
  have := h n hn
  simp only [Function.comp, id]
  rw [UInt8.toNat_ofNat']
  omega
/-- A chunk, as bytes. -/
def chB (c : S109) : List Int := varint c.f0.toNat ++ varint (putB c.f1).length ++ putB c.f1
/-- Chunks, as bytes. -/
def bodyC (l : List S109) : List Int := varint l.length ++ l.flatMap chB
/-- A block of chunks, as bytes. -/
def bputR (l : List S109) : List Int × Int := if rightC l = true then (sealL (bodyC l), 0) else ([], 1)
theorem putB_byt (l : List S52) : Byt (putB l) := fun x hx => by
  unfold putB at hx
  rcases List.mem_append.1 hx with h | h
  · exact varint_byt _ x h
  · exact byt_pack _ x h
theorem chB_byt (c : S109) : Byt (chB c) := fun x hx => by
  unfold chB at hx
  rcases List.mem_append.1 hx with h | h
  · rcases List.mem_append.1 h with h | h
    · exact varint_byt _ x h
    · exact varint_byt _ x h
  · exact putB_byt _ x h
theorem bodyC_byt (l : List S109) : Byt (bodyC l) := fun x hx => by
  unfold bodyC at hx
  rcases List.mem_append.1 hx with h | h
  · exact varint_byt _ x h
  · obtain ⟨c, _, hc⟩ := List.mem_flatMap.1 h
    exact chB_byt c x hc
theorem varint_len64 {n : Nat} (h : n < 2 ^ 64) : 1 ≤ (varint n).length ∧ (varint n).length ≤ 10 := Sc.varint_le 9 n (Nat.lt_of_lt_of_le h (by decide))
theorem putB_len {l : List S52} (h : l.length ≤ 1024) : (putB l).length ≤ 20000 := by
  have h1 := marksP_length l 0 0 0 0
  have h2 := (varint_len64 (n := l.length) (by omega)).2
  unfold putB
  rw [List.length_append, pack_length]
  omega
/-- What is right of a chunk. -/
structure OkC (c : S109) : Prop where
  id0 : 0 ≤ c.f0
  id1 : c.f0 < 4096
  n0 : 1 ≤ c.f1.length
  n1 : c.f1.length ≤ 1024
  up : rightB c.f1 = true
theorem okCs_all : ∀ (p : Int) (l : List S109), -1 ≤ p → okCs p l = true → ∀ c ∈ l, OkC c
  | _, [], _, _ => fun c hc => by cases hc
  | p, d :: l, hp, h => by
    rw [okCs] at h
    simp only [Bool.and_eq_true, decide_eq_true_eq] at h
    obtain ⟨⟨⟨⟨⟨h1, h2⟩, h3⟩, h4⟩, h5⟩, h6⟩ := h
    intro c hc
    rcases List.mem_cons.1 hc with rfl | hc
    · exact ⟨by omega, h2, h3, h4, h5⟩
    · exact okCs_all d.f0 l (by omega) h6 c hc
theorem rightC_all {l : List S109} (h : rightC l = true) : (∀ c ∈ l, OkC c) ∧ 1 ≤ l.length ∧ l.length ≤ 200 := by
  unfold rightC at h
  simp only [Bool.and_eq_true, decide_eq_true_eq] at h
  exact ⟨okCs_all (-1) l (by omega) h.1.1, h.1.2, h.2⟩
theorem putR_ok {c : S109} (h : OkC c) : putR c.f1 = (putB c.f1, 0) := by
  unfold putR
  rw [if_neg (by have := h.n1; omega), if_neg (by rw [h.up]; decide)]
theorem chB_len {c : S109} (h : OkC c) : (chB c).length ≤ 20020 := by
  have h1 := (varint_len64 (n := c.f0.toNat) (by have := h.id1; omega)).2
  have h3 := putB_len h.n1
  have h2 := (varint_len64 (n := (putB c.f1).length) (by omega)).2
  unfold chB
  rw [List.length_append, List.length_append]
  omega
theorem flat_len : ∀ (l : List S109), (∀ c ∈ l, OkC c) → (l.flatMap chB).length ≤ 20020 * l.length
  | [], _ => by simp
  | c :: l, h => by
    rw [List.flatMap_cons, List.length_append, List.length_cons]
    have h1 := chB_len (h c List.mem_cons_self)
    have h2 := flat_len l (fun d hd => h d (List.mem_cons_of_mem _ hd))
    omega
theorem bodyC_len {l : List S109} (h : rightC l = true) : (bodyC l).length ≤ 4004010 := by
  obtain ⟨h1, h2, h3⟩ := rightC_all h
  have := flat_len l h1
  have h4 := (varint_len64 (n := l.length) (by omega)).2
  unfold bodyC
  rw [List.length_append]
  omega
/-! ### The program's -/
theorem bright_from (l : List S109) (hl : l.length < 1000000000) (hE : ∀ c ∈ l, c.f1.length < 1000000000) (d : Nat) : ∀ (i : Nat) (p : Int), l.length - i = d → i ≤ l.length →
    Ev (fun k => block_Right.l0 k l p l (l.length : Int) (i : Int)) (okCs p (l.drop i) && decide (1 ≤ l.length) && decide (l.length ≤ 200)) := by
  induction d with
  | zero =>
    intro i p hd hi
    refine ev_succ (fun k => by rw [block_Right.l0]) (ev_neg (by omega) ?_)
    rw [List.drop_eq_nil_of_le (by omega), okCs, Bool.true_and]
    by_cases h1 : 1 ≤ l.length
    · refine ev_pos (by omega) (ev_eq (Ev.now _) ?_)
      rw [decide_eq_true h1, Bool.true_and]
      by_cases h2 : l.length ≤ 200
      · rw [decide_eq_true h2, decide_eq_true (by omega)]
      · rw [decide_eq_false h2, decide_eq_false (by omega)]
    · refine ev_neg (by omega) (ev_eq (Ev.now _) ?_)
      rw [decide_eq_false h1, Bool.false_and]
  | succ d ih =>
    intro i p hd hi
    have hlt : i < l.length := by omega
    have hw : wrap64 ((i : Int) + 1) = ((i + 1 : Nat) : Int) := by rw [w64 (by omega) (by omega)]; omega
    rw [okCs_step hlt]
    have hc := hE _ (List.getElem_mem hlt)
    refine ev_succ (fun k => by rw [block_Right.l0]) (ev_pos (by omega) (ev_pos (by omega) (ev_pos (by omega) ?_)))
    rw [rd109_at l i hlt, hw]
    by_cases c1 : l[i].f0 ≤ p
    · exact ev_pos c1 (ev_eq (Ev.now _) (by rw [decide_eq_false (show ¬ p < l[i].f0 by omega)]; simp))
    · refine ev_neg c1 ?_
      rw [decide_eq_true (show p < l[i].f0 by omega)]
      by_cases c2 : l[i].f0 ≥ 4096
      · exact ev_pos c2 (ev_eq (Ev.now _) (by rw [decide_eq_false (show ¬ l[i].f0 < 4096 by omega)]; simp))
      · refine ev_neg c2 ?_
        rw [decide_eq_true (show l[i].f0 < 4096 by omega)]
        by_cases c3 : l[i].f1.length = 0
        · exact ev_pos (by omega) (ev_eq (Ev.now _) (by rw [decide_eq_false (show ¬ 1 ≤ l[i].f1.length by omega)]; simp))
        · refine ev_neg (by omega) ?_
          rw [decide_eq_true (show 1 ≤ l[i].f1.length by omega)]
          by_cases c4 : l[i].f1.length ≤ 1024
          · refine ev_neg (by omega) (ev_bind (right_ev l[i].f1 (by omega)) ?_)
            rw [decide_eq_true c4]
            cases hr : rightB l[i].f1
            · exact ev_neg (by simp) (ev_eq (Ev.now _) (by simp))
            · refine ev_pos rfl (ev_eq (ih (i + 1) l[i].f0 (by omega) (by omega)) ?_)
              simp
          · exact ev_pos (by omega) (ev_eq (Ev.now _) (by rw [decide_eq_false c4]; simp))
theorem bright_ev (l : List S109) (hl : l.length < 1000000000) (hE : ∀ c ∈ l, c.f1.length < 1000000000) : Ev (fun k => block_Right.f k l) (rightC l) := bright_from l hl hE _ 0 (-1) rfl (Nat.zero_le _)
theorem oput_f {b : List Int} {n : Nat} (h : b.length ≤ 100000000) (hn : n < 2 ^ 64) : octs_Put.f b (n : Int) = some (b ++ varint n) := by
  unfold octs_Put.f
  rw [if_pos ⟨h, by omega, by omega⟩, Int.toNat_natCast]
theorem otext_f {b p : List Int} (h : b.length ≤ 50000000) (hp : p.length ≤ 1000000) (hb : Byt p) : octs_PutText.f b (strOfNums p) = some (b ++ varint p.length ++ p) := by
  unfold octs_PutText.f
  have hv := (varint_len64 (n := p.length) (by omega)).2
  rw [strOfNums_size, w_u64 (by omega) (by omega), oput_f (by omega) (by omega), Option.bind_some, List.length_append, if_pos (by omega), bytesOf_str hb]
theorem seal_f {b : List Int} (h : b.length ≤ 10000000) (hb : Byt b) : seal_Put.f b = some (sealL b) := by
  unfold seal_Put.f
  have hv := (varint_len64 (n := b.length) (by omega)).2
  have hy : Byt (varint b.length ++ b) := fun x hx => (List.mem_append.1 hx).elim (varint_byt _ x) (hb x)
  have hs : seal_Sum.f (varint b.length ++ b) = some (sumN (varint b.length ++ b) : Int) := if_pos ⟨by rw [List.length_append]; omega, (bytB_iff _).2 hy⟩
  rw [w_u64 (by omega) (by omega), oput_f (by simp) (by omega), Option.bind_some, List.nil_append, if_pos (by omega), Option.bind_some, hs, Option.bind_some, Option.bind_some, if_pos (by rw [List.length_append]; simp; omega)]
  unfold sealL footL
  have hl := sumN_lt hy
  congr 3 <;> simp
/-! ### The reference's -/
/-! ### Ids -/
end Go.Proofs.Ythkpnnbjcendcaa.Pure
end
section
/- StepsPut, walked. -/
set_option linter.unusedVariables false
set_option linter.unusedSimpArgs false
open Go.RowKit Go.Proofs.Ythkpnnbjcendcaa.X Go.Proofs.Ythkpnnbjcendcaa.Pl Go.Proofs.Ythkpnnbjcendcaa.Sp Go.Proofs.Ythkpnnbjcendcaa.Sc Go.Proofs.Ythkpnnbjcendcaa.Pure Go.Proofs.YthkpnnbjcendcaaW.PrintWords Go.Proofs.YthkpnnbjcendcaaW.PrintLast Go.Proofs.YthkpnnbjcendcaaW.PrintMore
namespace Go.Proofs.Ythkpnnbjcendcaa.Sc
theorem sput_named (A0 : Option Addr) (c0 : Nat) (l0 : List S52) (O : List Int) (q : Int) (w : World) (ho : (putR l0).1 = O) (hq : (putR l0).2 = q) (hr0 : Kd.C k52 w A0 l0.length l0) (hc0 : l0.length ≤ c0) (hl : l0.length < 4611686018427387904) (hf : fitP l0) :
    Calls Try.prog 29 #[.slice A0 l0.length c0] w fun e w' => ∃ v, e = .returned (.tuple #[v, .int .i64 q]) ∧ Kd.R (Kd.int .u8) 5 w' w.heap.size (fun _ => True) v O ∧ Below w.heap.size w w' := by
  subst ho hq
  exact sput_calls A0 c0 l0 w hr0 hc0 hl hf
theorem right_named (A0 : Option Addr) (c0 : Nat) (l0 : List S52) (b : Bool) (w : World) (hb : rightB l0 = b) (hr0 : Kd.C k52 w A0 l0.length l0) (hc0 : l0.length ≤ c0) (hl : l0.length < 4611686018427387904) :
    Calls Try.prog 33 #[.slice A0 l0.length c0] w fun e w' => e = .returned (.bool b) ∧ Below w.heap.size w w' := hb ▸ right_calls A0 c0 l0 w hr0 hc0 hl
end Go.Proofs.Ythkpnnbjcendcaa.Sc
namespace Go.Proofs.Ythkpnnbjcendcaa.X
end Go.Proofs.Ythkpnnbjcendcaa.X
end
section
/- StepsSame, walked. -/
set_option linter.unusedVariables false
set_option linter.unusedSimpArgs false
open Go.RowKit Go.Proofs.Ythkpnnbjcendcaa.X Go.Proofs.Ythkpnnbjcendcaa.Pl Go.Proofs.Ythkpnnbjcendcaa.Sp Go.Proofs.Ythkpnnbjcendcaa.Sc Go.Proofs.Ythkpnnbjcendcaa.Pure Go.Proofs.YthkpnnbjcendcaaW.PrintWords Go.Proofs.YthkpnnbjcendcaaW.PrintLast Go.Proofs.YthkpnnbjcendcaaW.PrintMore
namespace Go.Proofs.Ythkpnnbjcendcaa.Sc
theorem sput_n (A0 : Option Addr) (c0 n : Nat) (l0 : List S52) (O : List Int) (q : Int) (w : World) (hn : l0.length = n) (ho : (putR l0).1 = O) (hq : (putR l0).2 = q) (hr0 : Kd.C k52 w A0 l0.length l0) (hc0 : n ≤ c0) (hl : n < 4611686018427387904) (hf : fitP l0) :
    Calls Try.prog 29 #[.slice A0 n c0] w fun e w' => ∃ v, e = .returned (.tuple #[v, .int .i64 q]) ∧ Kd.R (Kd.int .u8) 5 w' w.heap.size (fun _ => True) v O ∧ Below w.heap.size w w' := by
  subst hn
  exact sput_named A0 c0 l0 O q w ho hq hr0 hc0 hl hf
end Go.Proofs.Ythkpnnbjcendcaa.Sc
namespace Go.Proofs.Ythkpnnbjcendcaa.Pure
end Go.Proofs.Ythkpnnbjcendcaa.Pure
namespace Go.Proofs.Ythkpnnbjcendcaa.X
end Go.Proofs.Ythkpnnbjcendcaa.X
end
section
/- block.Put and the reference's, walked. -/
set_option linter.unusedVariables false
set_option linter.unusedSimpArgs false
open Go.RowKit Go.Proofs.Ythkpnnbjcendcaa.X Go.Proofs.Ythkpnnbjcendcaa.Pl Go.Proofs.Ythkpnnbjcendcaa.Sp Go.Proofs.Ythkpnnbjcendcaa.Pure Go.Proofs.YthkpnnbjcendcaaW.PrintWords Go.Proofs.YthkpnnbjcendcaaW.PrintLast Go.Proofs.YthkpnnbjcendcaaW.PrintMore
namespace Go.Proofs.Ythkpnnbjcendcaa.Sc
theorem bright_calls (A0 : Option Addr) (c0 : Nat) (l0 : List S109) (b : Bool) (w : World) (hb : rightC l0 = b) (hr0 : Kd.C k109 w A0 l0.length l0) (hc0 : l0.length ≤ c0) (hl : l0.length < 1000000000) (hE : ∀ c ∈ l0, c.f1.length < 1000000000) :
    Calls Try.prog 55 #[.slice A0 l0.length c0] w fun e w' => e = .returned (.bool b) ∧ Below w.heap.size w w' := by
  subst hb
  obtain ⟨K, hK⟩ := bright_ev l0 hl hE
  exact block_Right.calls K A0 c0 l0 _ w hr0 hc0 (hK K (Nat.le_refl _))
theorem oput_n (A0 : Option Addr) (c0 m : Nat) (b : List Int) (n : Nat) (r : List Int) (w : World) (hm : b.length = m) (hr : b ++ varint n = r) (hr0 : Kd.C (Kd.int .u8) w A0 m b) (hl : m ≤ 100000000) (hn : n < 2 ^ 64) :
    Calls Try.prog 65 #[.slice A0 m c0, .int .u64 (n : Int)] w fun e w' => ∃ v, e = .returned v ∧ Kd.R (Kd.int .u8) 5 w' w.heap.size (fun _ => True) v r ∧ Below w.heap.size w w' := by
  subst hm hr
  exact oput_calls A0 c0 b n w hr0 hl hn
theorem otext_n (A0 : Option Addr) (c0 m : Nat) (b p : List Int) (s : ByteArray) (r : List Int) (w : World) (hm : b.length = m) (hs : s = strOfNums p) (hr : b ++ varint p.length ++ p = r) (hr0 : Kd.C (Kd.int .u8) w A0 m b) (hc0 : m ≤ c0) (hl : m ≤ 50000000) (hp : p.length ≤ 1000000) (hb : Byt p) :
    Calls Try.prog 87 #[.slice A0 m c0, .string s] w fun e w' => ∃ v, e = .returned v ∧ Kd.R (Kd.int .u8) 5 w' w.heap.size (fun _ => True) v r ∧ Below w.heap.size w w' := by
  subst hm hs hr
  exact octs_PutText.calls A0 c0 b _ _ w hr0 hc0 (otext_f hl hp hb)
theorem seal_n (A0 : Option Addr) (c0 m : Nat) (b r : List Int) (w : World) (hm : b.length = m) (hr : sealL b = r) (hr0 : Kd.C (Kd.int .u8) w A0 m b) (hc0 : m ≤ c0) (hl : m ≤ 10000000) (hb : Byt b) :
    Calls Try.prog 88 #[.slice A0 m c0] w fun e w' => ∃ v, e = .returned v ∧ Kd.R (Kd.int .u8) 5 w' w.heap.size (fun _ => True) v r ∧ Below w.heap.size w w' := by
  subst hm hr
  exact seal_Put.calls A0 c0 b _ w hr0 hc0 (seal_f hl hb)
set_option maxHeartbeats 16000000 in
set_option maxRecDepth 100000 in
theorem bput_calls (A0 : Option Addr) (c0 : Nat) (l0 : List S109) (O9 : List Int) (q9 : Int) (w : World) (hO : bputR l0 = (O9, q9)) (hr0 : Kd.C k109 w A0 l0.length l0) (hc0 : l0.length ≤ c0) (hl : l0.length < 1000000000) (hE : ∀ c ∈ l0, c.f1.length < 1000000000) (hf : ∀ c ∈ l0, fitP c.f1) :
    Calls Try.prog 53 #[.slice A0 l0.length c0] w fun e w' => ∃ v, e = .returned (.tuple #[v, .int .i64 q9]) ∧ Kd.R (Kd.int .u8) 5 w' w.heap.size (fun _ => True) v O9 ∧ Below w.heap.size w w' := by
  have HB := Aside0.mk (Below.refl w.heap.size w)
  have HS := Aside0.mk (Sep.nil w.heap.size w)
  have HR := Aside0.mk hr0
  have HC := Aside0.mk hc0
  have HL := Aside0.mk hl
  have HE := Aside0.mk hE
  have HF := Aside0.mk hf
  cases hrt : rightC l0
  · have HRT := Aside0.mk hrt
    have hE9 : bputR l0 = ([], 1) := by unfold bputR; rw [hrt]; rfl
    rw [hE9] at hO
    injection hO with h1 h2
    subst h1 h2
    clear hr0 hc0 hl hE hf hrt hE9
    go_enter Try.func53, Try.ntmps53
    go_wp2_with (first
      | (go_at_call 55; ((with_reducible refine (bright_calls A0 c0 l0 false _ HRT.out (Kd.C_below HR.out HB.out) HC.out HL.out HE.out).mono ?_); rintro e w1 ⟨rfl, hb⟩; have n0_ := Aside0.mk (below_step (by repeat (first | (with_reducible first | exact HB.out | apply below_alloc | apply pw_below_drewN | apply below_drew1) | exact HB.out)) hb); have n1_ := Aside0.mk (Sep.below (by repeat (first | (with_reducible first | exact HS.out | apply sep_alloc | apply sep_drewN | apply sep_drew) | exact HS.out)) hb); clear HB HS; have HB := n0_; have HS := n1_; clear n0_ n1_ hb)))
    go_ret2
    exact ⟨_, rfl, Kd.R_nil _ _ _ _ _, HB.out⟩
  · have HRT := Aside0.mk hrt
    have hE9 : bputR l0 = (sealL (bodyC l0), 0) := by unfold bputR; rw [hrt]; rfl
    rw [hE9] at hO
    injection hO with h1 h2
    obtain ⟨hok, hn1, hn2⟩ := rightC_all hrt
    have HOK := Aside0.mk hok
    have HN := Aside0.mk hn2
    have HO9 := Aside0.mk h1
    have hbl := bodyC_len hrt
    have HBL := Aside0.mk hbl
    have hcv : IntKind.u64.wrap (l0.length : Int) = (l0.length : Int) := w_u64 (by omega) (by omega)
    subst h2
    clear hr0 hc0 hl hE hf hrt hE9 h1 hok hn1 hbl
    go_enter Try.func53, Try.ntmps53
    go_wp2_with (first
      | (go_at_call 55; ((with_reducible refine (bright_calls A0 c0 l0 true _ HRT.out (Kd.C_below HR.out HB.out) HC.out HL.out HE.out).mono ?_); rintro e w1 ⟨rfl, hb⟩; have n0_ := Aside0.mk (below_step (by repeat (first | (with_reducible first | exact HB.out | apply below_alloc | apply pw_below_drewN | apply below_drew1) | exact HB.out)) hb); have n1_ := Aside0.mk (Sep.below (by repeat (first | (with_reducible first | exact HS.out | apply sep_alloc | apply sep_drewN | apply sep_drew) | exact HS.out)) hb); clear HB HS; have HB := n0_; have HS := n1_; clear n0_ n1_ hb))
      | (go_at_call 65; ((with_reducible refine (oput_n none 0 0 [] l0.length (varint l0.length) _ rfl rfl (Kd.C_nil _ _) (by decide) (by have := HN.out; omega)).mono ?_); rintro e w2 ⟨v, rfl, ho, hb⟩; obtain ⟨A2, c2, e_⟩ := Kd.R_slice ho; subst e_; obtain ⟨F2, hs_⟩ := Sep.newrow (by repeat (first | (with_reducible first | exact HS.out | apply sep_alloc | apply sep_drewN | apply sep_drew) | exact HS.out)) hb (below_size (by repeat (first | (with_reducible first | exact HB.out | apply below_alloc | apply pw_below_drewN | apply below_drew1) | exact HB.out))) ho; have n0_ := Aside0.mk (below_step (by repeat (first | (with_reducible first | exact HB.out | apply below_alloc | apply pw_below_drewN | apply below_drew1) | exact HB.out)) hb); clear HB HS hb ho; have HB := n0_; have HS := Aside0.mk hs_; clear n0_ hs_)))
    go_loopg [4, 6, 7, 8, 18] l0.length (fun kq v4 _ _ _ v18 w' => ∃ (i : Nat) (O : List Int) (F : Nat → Prop), v18 = .int .i64 (i : Int) ∧ Aside0 (kq + i = l0.length ∧ O = varint l0.length ++ (l0.take i).flatMap chB) ∧ Aside0 (Sep w.heap.size w' [row F (Kd.int .u8) 5 w.heap.size v4 O]) ∧ Aside0 (Below w.heap.size w w'))
    case atStart => exact ⟨0, varint l0.length, _, rfl, ⟨by omega, by simp⟩, HS, HB⟩
    case round =>
      clear HS HB
      obtain ⟨i, O, F, rfl, HI, HS, HB⟩ := hrel
      obtain ⟨Ao, co, eo⟩ := Kd.R_slice (Sep.R HS.out)
      by_cases hlt : i < l0.length
      · subst eo
        obtain ⟨k1, rfl⟩ : ∃ q, gk = q + 1 := ⟨gk - 1, by have := HI.out.1; omega⟩
        have d1b : decide ((i : Int) < (l0.length : Int)) = true := decide_eq_true (by omega)
        have d1n : decide (i < l0.length) = true := decide_eq_true hlt
        have hnx : wrap64 ((i : Int) + 1) = ((i + 1 : Nat) : Int) := by have := HL.out; rw [w64 (by omega) (by omega)]; simp
        obtain ⟨ad, A1, c1, e1, hx0, hx1, hl1, hC1⟩ := at_T109 HR.out (i : Int) (by omega) (by omega)
        cases e1
        rw [Int.toNat_natCast] at hx0 hx1
        replace hx0 := (HB.out.cell (World.block_lt_of_cell? w _ hx0)).trans hx0
        replace hx1 := (HB.out.cell (World.block_lt_of_cell? w _ hx1)).trans hx1
        have hrd := rd109_at l0 i hlt
        rw [hrd] at hx0 hx1 hl1 hC1
        have ho1 := HOK.out l0[i] (List.getElem_mem hlt)
        have hf1 := HF.out l0[i] (List.getElem_mem hlt)
        have hch : (l0.take (i + 1)).flatMap chB = (l0.take i).flatMap chB ++ chB l0[i] := by
          rw [List.take_succ_eq_append_getElem hlt, List.flatMap_append, List.flatMap_cons, List.flatMap_nil, List.append_nil]
        have hfl := flat_len (l0.take i) (fun c hc => HOK.out c (List.mem_of_mem_take hc))
        rw [List.length_take] at hfl
        have hvl := (varint_len64 (n := l0.length) (by have := HN.out; omega)).2
        have hOL : O.length ≤ 5000000 := by rw [HI.out.2, List.length_append]; have := HN.out; omega
        obtain ⟨c, hc⟩ : ∃ c, c = l0[i] := ⟨_, rfl⟩
        rw [← hc] at hx0 hx1 hl1 hC1 ho1 hf1 hch
        obtain ⟨x0, hx⟩ : ∃ m : Nat, c.f0 = (m : Int) := ⟨c.f0.toNat, by have := ho1.id0; omega⟩
        obtain ⟨ps, hps⟩ : ∃ p, p = c.f1 := ⟨_, rfl⟩
        obtain ⟨n1, hn1⟩ : ∃ n, n = ps.length := ⟨_, rfl⟩
        obtain ⟨P, hP⟩ : ∃ P, P = putB ps := ⟨_, rfl⟩
        obtain ⟨nP, hnP⟩ : ∃ n, n = P.length := ⟨_, rfl⟩
        have hpr : putR ps = (P, 0) := by rw [hP, hps]; exact putR_ok ho1
        have hPl : nP ≤ 20000 := by rw [hnP, hP, hps]; exact putB_len ho1.n1
        have hxl : x0 < 4096 := by have := ho1.id1; omega
        obtain ⟨O1, hO1⟩ : ∃ O1, O ++ varint x0 = O1 := ⟨_, rfl⟩
        obtain ⟨n9, hn9⟩ : ∃ n, O1.length = n := ⟨_, rfl⟩
        have hO1l : n9 ≤ 5000010 := by rw [← hn9, ← hO1, List.length_append]; have := (varint_len64 (n := x0) (by omega)).2; omega
        obtain ⟨O2, hO2⟩ : ∃ O2, O1 ++ varint P.length ++ P = O2 := ⟨_, rfl⟩
        have HO2 := Aside0.mk (show O2 = varint l0.length ++ (l0.take (i + 1)).flatMap chB by
          rw [hch, ← hO2, ← hO1, HI.out.2, hP, hps]
          unfold chB
          rw [hx, Int.toNat_natCast]
          simp only [List.append_assoc])
        rw [hx] at hx0
        rw [← hps] at hx1 hl1 hC1 hf1
        rw [← hn1] at hx1 hl1
        have hcw : IntKind.u64.wrap (x0 : Int) = (x0 : Int) := w_u64 (by omega) (by omega)
        obtain ⟨sP, hsP⟩ : ∃ s, s = strOfNums P := ⟨_, rfl⟩
        have HSP := Aside0.mk hsP
        have HX := Aside0.mk hnx
        have HC1 := Aside0.mk hC1
        have HL1 := Aside0.mk hl1
        have HN1 := Aside0.mk hn1.symm
        have HNL := Aside0.mk (show n1 < 4611686018427387904 by have := ho1.n1; rw [hn1, hps]; omega)
        have HF1 := Aside0.mk hf1
        have HP1 := Aside0.mk (show (putR ps).1 = P by rw [hpr])
        have HP2 := Aside0.mk (show (putR ps).2 = 0 by rw [hpr])
        have HPN := Aside0.mk hnP.symm
        have HPL := Aside0.mk hPl
        have HPB := Aside0.mk (show Byt P from hP ▸ putB_byt ps)
        have HXL := Aside0.mk hxl
        have HO1 := Aside0.mk hO1
        have HN9 := Aside0.mk hn9
        have HO1L := Aside0.mk hO1l
        have HOO2 := Aside0.mk hO2
        have HOL := Aside0.mk hOL
        have c4 := eq_true hlt
        have c5 := eq_true (show (i : Int) < (l0.length : Int) by omega)
        have c6 := eq_true (show 0 ≤ (i : Int) by omega)
        clear hnx hlt hrd hch hfl hvl hOL hc ho1 hf1 hx hps hn1 hP hnP hpr hPl hxl hO1 hn9 hO1l hO2 hsP hC1 hl1
        go_wp2_with (first
          | ((with_reducible refine gate_dst (N := 6) rfl ?_); (try (refine gate_guard (by rfl) ?_; dsimp only)); refine box_event ?hg (N := 6) ?hd (cs := #[.int .i64 0, .slice none 0 0]) (t := 109) ?hr ?_; (case hd => rfl); (case hg => rfl); (case hr => first | (go_simp; done) | (go_simp; rfl)); intro gq hg w5 hbox hb; have n0_ := Aside0.mk (below_step (by repeat (first | (with_reducible first | exact HB.out | apply below_alloc | apply pw_below_drewN | apply below_drew1) | exact HB.out)) hb); have n1_ := Aside0.mk (Sep.newbox (by repeat (first | (with_reducible first | exact HS.out | apply sep_alloc | apply sep_drewN | apply sep_drew) | exact HS.out)) hb (Nat.le_of_eq hg.symm) (below_size (by repeat (first | (with_reducible first | exact HB.out | apply below_alloc | apply pw_below_drewN | apply below_drew1) | exact HB.out))) hbox); clear HB HS; have HB := n0_; have HS := n1_; clear n0_ n1_ hb hbox hg; have hc0 := Sep.c20 HS.out; have hc1 := Sep.c21 HS.out; have hf0 := Sep.free HS.out 0; have hf1 := Sep.free HS.out 1)
          | (go_at_call 29; ((with_reducible refine (sput_n A1 c1 n1 ps P 0 _ HN1.out HP1.out HP2.out (Kd.C_below HC1.out (below_set (j := 1) (v := .slice A1 n1 c1) (below_set (j := 0) (v := .int .i64 (x0 : Int)) HB.out HS.out.ge) HS.out.ge)) HL1.out HNL.out HF1.out).mono ?_); rintro e w8 ⟨v, rfl, ho, hb⟩; have n0_ := Aside0.mk (below_set (j := 1) (v := .slice A1 n1 c1) (below_set (j := 0) (v := .int .i64 (x0 : Int)) HB.out HS.out.ge) HS.out.ge); have n1_ := Aside0.mk ((HS.out.s20 (.int .i64 (x0 : Int))).s21 (.slice A1 n1 c1)); (try clear HB HS); have HB := n0_; have HS := n1_; clear n0_ n1_; clear hc0 hc1 hf0 hf1; obtain ⟨Ap, cp, e_⟩ := Kd.R_slice ho; rw [HPN.out] at e_; subst e_; obtain ⟨Fp, hs_⟩ := Sep.newrow (by repeat (first | (with_reducible first | exact HS.out | apply sep_alloc | apply sep_drewN | apply sep_drew) | exact HS.out)) hb (below_size (by repeat (first | (with_reducible first | exact HB.out | apply below_alloc | apply pw_below_drewN | apply below_drew1) | exact HB.out))) ho; have n0_ := Aside0.mk (below_step (by repeat (first | (with_reducible first | exact HB.out | apply below_alloc | apply pw_below_drewN | apply below_drew1) | exact HB.out)) hb); clear HB HS hb ho; have HB := n0_; have HS := Aside0.mk hs_; clear n0_ hs_)))
        go_wp2
        refine start_ (n := 9) (S := fun w' => w'.cell? ⟨gq, 0, none⟩ = some (.int .i64 (x0 : Int)) ∧ (convert 24 9 (.slice Ap nP cp)).run Try.prog w' = .ok (.string sP) w') (ds := []) #[false, false, false, false, false, false, false, false, false] (by kernel_rfl) rfl rfl ⟨Sep.c20 (sep_drew HS.out.p2), (by rw [HSP.out]; exact own_string Try.underlying24 Try.underlying5 Try.underlying9 (Kd.own_of_R (Sep.R (sep_drew HS.out))))⟩ (fun hHeld => ?_)
        have n0_ := Aside0.mk (below_drew HB.out)
        have n1_ := Aside0.mk (sep_drew HS.out)
        clear HB HS
        have HB := n0_
        have HS := n1_
        clear n0_ n1_
        generalize (World.drew w8) = wd_ at HB HS hHeld ⊢
        refine pure_ (i := 0) (N := some 30) (v := ?_) (a' := ?_) #[true, false, false, false, false, false, false, false, false] rfl rfl (by kernel_rfl) (fun _ _ _ h => h) (Or.inl ⟨by rfl, ?_⟩) ?_ ?_
        rotate_left
        · intro w'
          go_simp
          with_reducible rfl
        rotate_left
        · simp only [Act.put, List.setIfInBounds_toArray, List.set_cons_zero, List.set_cons_succ, i64_w, i32_w]
          rfl
        refine pure_ (i := 1) (N := some 31) (v := ?_) (a' := ?_) #[true, true, false, false, false, false, false, false, false] rfl rfl (by kernel_rfl) (fun _ _ _ h => h) (Or.inl ⟨by rfl, ?_⟩) ?_ ?_
        rotate_left
        · intro w'
          go_simp
          with_reducible rfl
        rotate_left
        · simp only [Act.put, List.setIfInBounds_toArray, List.set_cons_zero, List.set_cons_succ, i64_w, i32_w]
          rfl
        refine pure_ (i := 5) (N := some 35) (v := ?_) (a' := ?_) #[true, true, false, false, false, true, false, false, false] rfl rfl (by kernel_rfl) (fun _ _ _ h => h) (Or.inl ⟨by rfl, ?_⟩) ?_ ?_
        rotate_left
        · intro w'
          go_simp
          with_reducible rfl
        rotate_left
        · simp only [Act.put, List.setIfInBounds_toArray, List.set_cons_zero, List.set_cons_succ, i64_w, i32_w]
          rfl
        refine take_ (i := 2) (N := some 32) (v := ?_) (a' := ?_) #[true, true, true, false, false, true, false, false, false] rfl rfl (by kernel_rfl) (fun _ _ _ h => h) (Or.inl ⟨by rfl, ?_⟩) hHeld ?_ ?_
        rotate_left
        · rintro w' ⟨s0, s1⟩
          go_simp
          with_reducible rfl
        rotate_left
        · simp only [Act.put, List.setIfInBounds_toArray, List.set_cons_zero, List.set_cons_succ, i64_w, i32_w]
          rfl
        refine pure_ (i := 3) (N := some 33) (v := ?_) (a' := ?_) #[true, true, true, true, false, true, false, false, false] rfl rfl (by kernel_rfl) (fun _ _ _ h => h) (Or.inl ⟨by rfl, ?_⟩) ?_ ?_
        rotate_left
        · intro w'
          go_simp
          with_reducible rfl
        rotate_left
        · simp only [Act.put, List.setIfInBounds_toArray, List.set_cons_zero, List.set_cons_succ, i64_w, i32_w]
          rfl
        refine take_ (i := 6) (N := some 36) (v := ?_) (a' := ?_) #[true, true, true, true, false, true, true, false, false] rfl rfl (by kernel_rfl) (fun _ _ _ h => h) (Or.inl ⟨by rfl, ?_⟩) hHeld ?_ ?_
        rotate_left
        · rintro w' ⟨s0, s1⟩
          go_simp
          with_reducible rfl
        rotate_left
        · simp only [Act.put, List.setIfInBounds_toArray, List.set_cons_zero, List.set_cons_succ, i64_w, i32_w]
          rfl
        refine one_ (i := 4) (N := some 34) #[true, true, true, true, true, true, true, false, false] rfl rfl (by kernel_rfl) (by decide) (fun K hK => ?_)
        refine goes_ Try.func65 (by kernel_rfl) rfl #[.slice Ao O.length co, .int .u64 (x0 : Int)] (by rfl) rfl rfl (by first | (simp only [List.map_toArray, List.map_cons, List.map_nil]; done) | (simp only [List.map_toArray, List.map_cons, List.map_nil]; rfl) | rfl) ?_; with_reducible refine (oput_n Ao co O.length O x0 O1 _ rfl HO1.out (Kd.R_reads' (Sep.R HS.out.p3)).2.2 (by have := HOL.out; omega) (by have := HXL.out; omega)).mono ?_; rintro e w9 ⟨v, rfl, ho, hb⟩; refine ⟨_, rfl, ?_⟩
        obtain ⟨A8, c8, e_⟩ := Kd.R_slice ho; rw [HN9.out] at e_; subst e_; obtain ⟨F8, hs_⟩ := Sep.newrow (by repeat (first | (with_reducible first | exact HS.out | apply sep_alloc | apply sep_drewN | apply sep_drew) | exact HS.out)) hb (below_size (by repeat (first | (with_reducible first | exact HB.out | apply below_alloc | apply pw_below_drewN | apply below_drew1) | exact HB.out))) ho; have n0_ := Aside0.mk (below_step (by repeat (first | (with_reducible first | exact HB.out | apply below_alloc | apply pw_below_drewN | apply below_drew1) | exact HB.out)) hb); clear HB HS hb ho; have HB := n0_; have HS := Aside0.mk hs_; clear n0_ hs_
        refine hK.out _ _ ⟨Sep.c20 HS.out.p3, (by rw [HSP.out]; exact own_string Try.underlying24 Try.underlying5 Try.underlying9 (Kd.own_of_R (Sep.R HS.out.p2)))⟩ (fun hHeld => ?_)
        clear hK K
        refine norm_ (a' := ?_) ?_ ?_
        rotate_left
        · show Act.put _ (some 34) _ = _
          simp only [Act.put, List.setIfInBounds_toArray, List.set_cons_zero, List.set_cons_succ, i64_w, i32_w]
          rfl
        refine one_ (i := 7) (N := some 37) #[true, true, true, true, true, true, true, true, false] rfl rfl (by kernel_rfl) (by decide) (fun K hK => ?_)
        refine goes_ Try.func87 (by kernel_rfl) rfl #[.slice A8 n9 c8, .string sP] (by rfl) rfl rfl (by first | (simp only [List.map_toArray, List.map_cons, List.map_nil]; done) | (simp only [List.map_toArray, List.map_cons, List.map_nil]; rfl) | rfl) ?_; with_reducible refine (otext_n A8 c8 n9 O1 P sP O2 _ HN9.out HSP.out HOO2.out (by have h := (Kd.R_reads' (Sep.R HS.out)).2.2; rw [HN9.out] at h; exact h) (Kd.R_reads' (Sep.R HS.out)).2.1 (by have := HO1L.out; omega) (by rw [HPN.out]; have := HPL.out; omega) HPB.out).mono ?_; rintro e w10 ⟨v, rfl, ho, hb⟩; refine ⟨_, rfl, ?_⟩
        obtain ⟨A9, c9, e_⟩ := Kd.R_slice ho; subst e_; obtain ⟨F9, hs_⟩ := Sep.newrow (by repeat (first | (with_reducible first | exact HS.out | apply sep_alloc | apply sep_drewN | apply sep_drew) | exact HS.out)) hb (below_size (by repeat (first | (with_reducible first | exact HB.out | apply below_alloc | apply pw_below_drewN | apply below_drew1) | exact HB.out))) ho; have n0_ := Aside0.mk (below_step (by repeat (first | (with_reducible first | exact HB.out | apply below_alloc | apply pw_below_drewN | apply below_drew1) | exact HB.out)) hb); clear HB HS hb ho; have HB := n0_; have HS := Aside0.mk hs_; clear n0_ hs_
        refine hK.out _ _ ⟨Sep.c20 HS.out.p4, (by rw [HSP.out]; exact own_string Try.underlying24 Try.underlying5 Try.underlying9 (Kd.own_of_R (Sep.R HS.out.p3)))⟩ (fun hHeld => ?_)
        clear hK K
        refine norm_ (a' := ?_) ?_ ?_
        rotate_left
        · show Act.put _ (some 37) _ = _
          simp only [Act.put, List.setIfInBounds_toArray, List.set_cons_zero, List.set_cons_succ, i64_w, i32_w]
          rfl
        refine pure_ (i := 8) (N := some 4) (v := ?_) (a' := ?_) #[true, true, true, true, true, true, true, true, true] rfl rfl (by kernel_rfl) (fun _ _ _ h => h) (Or.inl ⟨by rfl, ?_⟩) ?_ ?_
        rotate_left
        · intro w'
          go_simp
          with_reducible rfl
        rotate_left
        · simp only [Act.put, List.setIfInBounds_toArray, List.set_cons_zero, List.set_cons_succ, i64_w, i32_w]
          rfl
        refine done_ (by kernel_rfl) ?_
        go_wp2
        go_roundg k1
        case measure => omega
        case rel => exact ⟨i + 1, O2, _, (by first | rfl | rw [HX.out]), ⟨by have := HI.out.1; omega, HO2.out⟩, ⟨HS.out.drop2.drop2.drop2.drop2⟩, HB⟩
      · have d1b : decide ((i : Int) < (l0.length : Int)) = false := decide_eq_false (by omega)
        have d1n : decide (i < l0.length) = false := decide_eq_false hlt
        have hOE : O = bodyC l0 := by rw [HI.out.2, List.take_of_length_le (by omega)]; rfl
        have HOE := Aside0.mk hOE
        subst eo
        clear hlt hOE
        go_wp2_with (first
          | (go_at_call 88; ((with_reducible refine (seal_n Ao co O.length O O9 _ rfl (by rw [HOE.out]; exact HO9.out) (Kd.R_reads' (Sep.R HS.out)).2.2 (Kd.R_reads' (Sep.R HS.out)).2.1 (by rw [HOE.out]; have := HBL.out; omega) (by rw [HOE.out]; exact bodyC_byt _)).mono ?_); rintro e w3 ⟨v, rfl, ho, hb⟩; obtain ⟨A3, c3, e_⟩ := Kd.R_slice ho; subst e_; obtain ⟨F3, hs_⟩ := Sep.newrow (by repeat (first | (with_reducible first | exact HS.out | apply sep_alloc | apply sep_drewN | apply sep_drew) | exact HS.out)) hb (below_size (by repeat (first | (with_reducible first | exact HB.out | apply below_alloc | apply pw_below_drewN | apply below_drew1) | exact HB.out))) ho; have n0_ := Aside0.mk (below_step (by repeat (first | (with_reducible first | exact HB.out | apply below_alloc | apply pw_below_drewN | apply below_drew1) | exact HB.out)) hb); clear HB HS hb ho; have HB := n0_; have HS := Aside0.mk hs_; clear n0_ hs_)))
        go_ret2
        exact ⟨_, rfl, Kd.R_mono (Sep.R HS.out) (fun _ _ => trivial), HB.out⟩
end Go.Proofs.Ythkpnnbjcendcaa.Sc
end
section
/- The reference's Put of chunks, walked; both in the print's form. -/
set_option linter.unusedVariables false
set_option linter.unusedSimpArgs false
open Go.RowKit Go.Proofs.Ythkpnnbjcendcaa.X Go.Proofs.Ythkpnnbjcendcaa.Pl Go.Proofs.Ythkpnnbjcendcaa.Sp Go.Proofs.Ythkpnnbjcendcaa.Pure Go.Proofs.YthkpnnbjcendcaaW.PrintWords Go.Proofs.YthkpnnbjcendcaaW.PrintLast Go.Proofs.YthkpnnbjcendcaaW.PrintMore
namespace Go.Proofs.Ythkpnnbjcendcaa.Sc
end Go.Proofs.Ythkpnnbjcendcaa.Sc
namespace Go.Proofs.Ythkpnnbjcendcaa.X
def fitsC (l : List S109) : Bool := decide (l.length < 1000000000) && l.all fun c => decide (c.f1.length < 1000000000)
theorem fitsC_iff {l : List S109} (h : fitsC l = true) : l.length < 1000000000 ∧ ∀ c ∈ l, c.f1.length < 1000000000 := by
  unfold fitsC at h
  rw [Bool.and_eq_true, List.all_eq_true] at h
  exact ⟨by simpa using h.1, fun c hc => by simpa using h.2 c hc⟩
def block_Put.f (l0 : List S109) : Option (List Int × Int) := if fitsC l0 = true ∧ (l0.all fun c => fitB c.f1) = true then some (bputR l0) else none
theorem block_Put.calls (A0 : Option Addr) (c0 : Nat) (l0 : List (S109)) (r1 : List Int) (r2 : Int) (w : World) (hr0 : Kd.C k109 w A0 l0.length l0) (hc0 : l0.length ≤ c0) (h : block_Put.f l0 = some (r1, r2)) :
    Calls Try.prog 53 #[.slice A0 l0.length c0] w fun e w' => ∃ v0_ : Value, e = .returned (.tuple #[v0_, .int .i64 r2]) ∧ Kd.R (Kd.int .u8) 5 w' w.heap.size (fun _ => True) v0_ r1 ∧ Below w.heap.size w w' := by
  unfold block_Put.f at h
  split at h
  case isFalse => cases h
  case isTrue hfit =>
  have h := Option.some.inj h
  obtain ⟨h1, h2⟩ := fitsC_iff hfit.1
  exact Sc.bput_calls A0 c0 l0 r1 r2 w h hr0 hc0 h1 h2 (fun c hc => (fitB_iff _).1 (by simpa using List.all_eq_true.1 hfit.2 c hc))
end Go.Proofs.Ythkpnnbjcendcaa.X
end
section
/- What marks say: bits read as the numbers whose marks they are. -/
set_option linter.unusedVariables false
set_option linter.unusedSimpArgs false
open Go.RowKit Go.Proofs.Ythkpnnbjcendcaa.X Go.Proofs.Ythkpnnbjcendcaa.Pl Go.Proofs.YthkpnnbjcendcaaW.PrintWords Go.Proofs.YthkpnnbjcendcaaW.PrintLast Go.Proofs.YthkpnnbjcendcaaW.PrintMore
namespace Go.Proofs.Ythkpnnbjcendcaa.Pure
/-- From the place p on the bits are these. -/
def Seg (b : List Int) (p : Nat) (L : List Bool) : Prop := p + L.length ≤ 8 * b.length ∧ ∀ j, j < L.length → bt b (p + j) = b2 (L.getD j false)
theorem getD_app {A B : List Bool} (j : Nat) : (A ++ B).getD j false = if j < A.length then A.getD j false else B.getD (j - A.length) false := by
  rw [List.getD_eq_getElem?_getD, List.getD_eq_getElem?_getD, List.getD_eq_getElem?_getD]
  split
  · rw [List.getElem?_append_left (by assumption)]
  · rw [List.getElem?_append_right (by omega)]
theorem seg_app {b : List Int} {p : Nat} {A B : List Bool} : Seg b p (A ++ B) ↔ Seg b p A ∧ Seg b (p + A.length) B := by
  unfold Seg
  rw [List.length_append]
  constructor
  · rintro ⟨h1, h2⟩
    refine ⟨⟨by omega, fun j hj => ?_⟩, by omega, fun j hj => ?_⟩
    · have := h2 j (by omega)
      rw [getD_app, if_pos hj] at this
      exact this
    · have := h2 (A.length + j) (by omega)
      rw [getD_app, if_neg (by omega), show A.length + j - A.length = j by omega, ← Nat.add_assoc] at this
      exact this
  · rintro ⟨⟨h1, h2⟩, h3, h4⟩
    refine ⟨by omega, fun j hj => ?_⟩
    rw [getD_app]
    split
    · exact h2 j (by assumption)
    · have := h4 (j - A.length) (by omega)
      rw [show p + A.length + (j - A.length) = p + j by omega] at this
      exact this
theorem seg_nil {b : List Int} {p : Nat} (h : p ≤ 8 * b.length) : Seg b p [] := ⟨by simpa using h, fun j hj => absurd hj (by simp)⟩
theorem val_bits (b : List Int) (p : Nat) : ∀ (w j : Nat), j < w → bt b (p + j) = val b p w / 2 ^ (w - 1 - j) % 2
  | 0, j, h => absurd h (by omega)
  | w + 1, j, h => by
    rw [val]
    have hb := bt_lt b (p + w)
    by_cases hj : j = w
    · subst hj
      rw [show j + 1 - 1 - j = 0 by omega, Nat.pow_zero, Nat.div_one]
      omega
    · rw [val_bits b p w j (by omega), show w + 1 - 1 - j = (w - 1 - j) + 1 by omega, Nat.pow_succ', ← Nat.div_div_eq_div_mul]
      congr 2
      omega
theorem seg_nb {b : List Int} {p n w : Nat} (hn : n < 2 ^ w) : Seg b p (nb n w) ↔ p + w ≤ 8 * b.length ∧ val b p w = n := by
  unfold Seg
  rw [nb_length]
  constructor
  · rintro ⟨h1, h2⟩
    refine ⟨h1, ?_⟩
    have e : ∀ w n : Nat, (∀ j, j < w → bt b (p + j) = n / 2 ^ (w - 1 - j) % 2) → val b p w = n % 2 ^ w := by
      intro w
      induction w with
      | zero => intro n _; simp [val, Nat.mod_one]
      | succ w ih =>
        intro n h
        have g1 := ih (n / 2) (fun j hj => by
          rw [h j (by omega), Nat.div_div_eq_div_mul, ← Nat.pow_succ', show (w - 1 - j).succ = w + 1 - 1 - j by omega])
        have g2 := h w (by omega)
        rw [show w + 1 - 1 - w = 0 by omega, Nat.pow_zero, Nat.div_one] at g2
        rw [val, g1, g2, Nat.pow_succ', Nat.mod_mul]
        omega
    rw [e w n (fun j hj => by rw [h2 j hj, nb_getD hj]), Nat.mod_eq_of_lt hn]
  · rintro ⟨h1, rfl⟩
    exact ⟨h1, fun j hj => by rw [nb_getD hj, val_bits b p w j hj]⟩
theorem val_one (b : List Int) (p : Nat) : val b p 1 = bt b p := by simp [val]
/-- How many 1s stand there, up to four. -/
def onesAt (b : List Int) (p : Nat) : Nat :=
  if ¬(p + 1 ≤ 8 * b.length ∧ bt b p = 1) then 0 else if ¬(p + 2 ≤ 8 * b.length ∧ bt b (p + 1) = 1) then 1 else if ¬(p + 3 ≤ 8 * b.length ∧ bt b (p + 2) = 1) then 2 else if ¬(p + 4 ≤ 8 * b.length ∧ bt b (p + 3) = 1) then 3 else 4
def wid (k : Nat) : Nat := if k = 0 then 0 else if k = 1 then 7 else if k = 2 then 14 else if k = 3 then 32 else 64
def headW (k : Nat) : Nat := if k < 4 then k + 1 else 4
def openN (u : Nat) : Int := if u % 2 = 1 then -((u / 2 : Nat) : Int) - 1 else ((u / 2 : Nat) : Int)
/-- The mark that stands there: its 1s, its number, the place behind it. -/
def decM (b : List Int) (p : Nat) : Option (Nat × Nat × Nat) :=
  if p + headW (onesAt b p) + wid (onesAt b p) ≤ 8 * b.length then some (onesAt b p, val b (p + headW (onesAt b p)) (wid (onesAt b p)), p + headW (onesAt b p) + wid (onesAt b p)) else none
/-- The same without the question if fewer 1s would do. -/
def decL (b : List Int) (p : Nat) : Option (Int × Nat) := match decM b p with
  | some (_, u, q) => some (openN u, q)
  | none => none
def decS (b : List Int) (p : Nat) : Option (Int × Nat) := match decM b p with
  | some (k, u, q) => if 0 < k ∧ u < 2 ^ wid (k - 1) then none else some (openN u, q)
  | none => none
theorem ones_le (b : List Int) (p : Nat) : onesAt b p ≤ 4 := by unfold onesAt; (repeat' split) <;> omega
theorem open_fits {u : Nat} (h : u < 2 ^ 64) : fits64 (openN u) := by unfold fits64 openN; split <;> omega
theorem fold_open {u : Nat} : foldN (openN u) = u := by unfold foldN openN; (repeat' split) <;> omega
theorem open_fold (n : Int) : openN (foldN n) = n := by unfold foldN openN; (repeat' split) <;> omega
theorem dec_mark_some {b : List Int} {p k u q : Nat} (h : decM b p = some (k, u, q)) : k = onesAt b p ∧ u = val b (p + headW k) (wid k) ∧ q = p + headW k + wid k ∧ q ≤ 8 * b.length := by
  unfold decM at h
  split at h
  case isFalse => cases h
  case isTrue hl =>
    injection h with h
    injection h with h1 h
    injection h with h2 h3
    subst h1
    exact ⟨rfl, h2.symm, h3.symm, by omega⟩
/-- A mark by its 1s. -/
def markK (k u : Nat) : List Bool := (if k = 0 then [false] else if k = 1 then nb 2 2 else if k = 2 then nb 6 3 else if k = 3 then nb 14 4 else nb 15 4) ++ nb u (wid k)
theorem markK_length (k u : Nat) (hk : k ≤ 4) : (markK k u).length = headW k + wid k := by
  unfold markK headW
  rw [List.length_append, nb_length]
  rcases (by omega : k = 0 ∨ k = 1 ∨ k = 2 ∨ k = 3 ∨ k = 4) with rfl | rfl | rfl | rfl | rfl <;> simp [nb_length]
theorem seg_bit {b : List Int} {p : Nat} {c : Bool} : Seg b p [c] ↔ p + 1 ≤ 8 * b.length ∧ bt b p = b2 c := by
  unfold Seg
  constructor
  · rintro ⟨h1, h2⟩
    have := h2 0 (by simp)
    simpa using ⟨h1, this⟩
  · rintro ⟨h1, h2⟩
    refine ⟨by simpa using h1, fun j hj => ?_⟩
    have : j = 0 := by simp at hj; omega
    subst this
    simpa using h2
theorem seg_cons {b : List Int} {p : Nat} {c : Bool} {L : List Bool} : Seg b p (c :: L) ↔ Seg b p [c] ∧ Seg b (p + 1) L := by
  rw [show c :: L = [c] ++ L from rfl, seg_app]
  rfl
theorem head_bits (k : Nat) (hk : k ≤ 4) : (if k = 0 then [false] else if k = 1 then nb 2 2 else if k = 2 then nb 6 3 else if k = 3 then nb 14 4 else nb 15 4) = (if k = 0 then [false] else if k = 1 then [true, false] else if k = 2 then [true, true, false] else if k = 3 then [true, true, true, false] else [true, true, true, true]) := by
  rcases (by omega : k = 0 ∨ k = 1 ∨ k = 2 ∨ k = 3 ∨ k = 4) with rfl | rfl | rfl | rfl | rfl <;> decide
theorem one_ne : ((1 : Nat) = 0) = False := by simp
theorem seg_ones {b : List Int} {p k u : Nat} (hk : k ≤ 4) (h : Seg b p (markK k u)) : onesAt b p = k := by
  unfold markK at h
  rw [head_bits k hk] at h
  have h := (seg_app.1 h).1
  rcases (by omega : k = 0 ∨ k = 1 ∨ k = 2 ∨ k = 3 ∨ k = 4) with rfl | rfl | rfl | rfl | rfl <;> simp only [Nat.reduceEqDiff, if_true, if_false, Bool.false_eq_true, seg_cons (L := _ :: _), seg_bit, b2, Nat.add_assoc, Nat.reduceAdd, Nat.succ_ne_zero, one_ne] at h <;> unfold onesAt
  · rw [if_pos (by omega)]
  · rw [if_neg (by omega), if_pos (by omega)]
  · rw [if_neg (by omega), if_neg (by omega), if_pos (by omega)]
  · rw [if_neg (by omega), if_neg (by omega), if_neg (by omega), if_pos (by omega)]
  · rw [if_neg (by omega), if_neg (by omega), if_neg (by omega), if_neg (by omega)]
theorem ones_seg {b : List Int} {p : Nat} (h : p + headW (onesAt b p) ≤ 8 * b.length) : Seg b p (if onesAt b p = 0 then [false] else if onesAt b p = 1 then [true, false] else if onesAt b p = 2 then [true, true, false] else if onesAt b p = 3 then [true, true, true, false] else [true, true, true, true]) := by
  have t0 := bt_lt b p
  have t1 := bt_lt b (p + 1)
  have t2 := bt_lt b (p + 2)
  have t3 := bt_lt b (p + 3)
  by_cases c0 : p + 1 ≤ 8 * b.length ∧ bt b p = 1
  · by_cases c1 : p + 2 ≤ 8 * b.length ∧ bt b (p + 1) = 1
    · by_cases c2 : p + 3 ≤ 8 * b.length ∧ bt b (p + 2) = 1
      · by_cases c3 : p + 4 ≤ 8 * b.length ∧ bt b (p + 3) = 1
        · have e : onesAt b p = 4 := by unfold onesAt; rw [if_neg (by omega), if_neg (by omega), if_neg (by omega), if_neg (by omega)]
          rw [e] at h ⊢
          simp only [headW] at h
          simp only [Nat.reduceEqDiff, if_true, if_false, seg_cons (L := _ :: _), seg_bit, b2, Nat.add_assoc]
          simp at h ⊢
          omega
        · have e : onesAt b p = 3 := by unfold onesAt; rw [if_neg (by omega), if_neg (by omega), if_neg (by omega), if_pos c3]
          rw [e] at h ⊢
          simp only [headW] at h
          simp only [Nat.reduceEqDiff, if_true, if_false, seg_cons (L := _ :: _), seg_bit, b2, Nat.add_assoc]
          simp at h ⊢
          omega
      · have e : onesAt b p = 2 := by unfold onesAt; rw [if_neg (by omega), if_neg (by omega), if_pos c2]
        rw [e] at h ⊢
        simp only [headW] at h
        simp only [Nat.reduceEqDiff, if_true, if_false, seg_cons (L := _ :: _), seg_bit, b2, Nat.add_assoc]
        simp at h ⊢
        omega
    · have e : onesAt b p = 1 := by unfold onesAt; rw [if_neg (by omega), if_pos c1]
      rw [e] at h ⊢
      simp only [headW] at h
      simp only [Nat.reduceEqDiff, if_true, if_false, seg_cons (L := _ :: _), seg_bit, b2, Nat.add_assoc]
      simp at h ⊢
      omega
  · have e : onesAt b p = 0 := by unfold onesAt; rw [if_pos c0]
    rw [e] at h ⊢
    simp only [headW] at h
    simp only [if_true, seg_bit, b2]
    simp at h ⊢
    omega
theorem decM_seg {b : List Int} {p k u q : Nat} : decM b p = some (k, u, q) ↔ k ≤ 4 ∧ u < 2 ^ wid k ∧ Seg b p (markK k u) ∧ q = p + (markK k u).length := by
  constructor
  · intro h
    obtain ⟨rfl, hu, hq, hl⟩ := dec_mark_some h
    have hk := ones_le b p
    have hlt : u < 2 ^ wid (onesAt b p) := hu ▸ val_lt _ _ _
    refine ⟨hk, hlt, ?_, by rw [markK_length _ _ hk]; omega⟩
    unfold markK
    rw [head_bits _ hk, seg_app]
    refine ⟨ones_seg (by omega), ?_⟩
    rw [seg_nb hlt]
    have hh : (if onesAt b p = 0 then [false] else if onesAt b p = 1 then [true, false] else if onesAt b p = 2 then [true, true, false] else if onesAt b p = 3 then [true, true, true, false] else [true, true, true, true]).length = headW (onesAt b p) := by
      unfold headW
      rcases (by omega : onesAt b p = 0 ∨ onesAt b p = 1 ∨ onesAt b p = 2 ∨ onesAt b p = 3 ∨ onesAt b p = 4) with e | e | e | e | e <;> rw [e] <;> simp
    rw [hh]
    exact ⟨by omega, hu.symm⟩
  · rintro ⟨hk, hu, hs, rfl⟩
    have e := seg_ones hk hs
    have hl := hs.1
    rw [markK_length _ _ hk] at hl ⊢
    unfold markK at hs
    have h2 := (seg_app.1 hs).2
    rw [seg_nb hu] at h2
    have hh : (if k = 0 then [false] else if k = 1 then nb 2 2 else if k = 2 then nb 6 3 else if k = 3 then nb 14 4 else nb 15 4).length = headW k := by
      unfold headW
      rcases (by omega : k = 0 ∨ k = 1 ∨ k = 2 ∨ k = 3 ∨ k = 4) with rfl | rfl | rfl | rfl | rfl <;> simp [nb_length]
    rw [hh] at h2
    unfold decM
    rw [e, if_pos (by omega), h2.2, Nat.add_assoc]
theorem markB_K (n : Int) (h : fits64 n) : ∃ k, k ≤ 4 ∧ foldN n < 2 ^ wid k ∧ markB n = markK k (foldN n) ∧ ¬(0 < k ∧ foldN n < 2 ^ wid (k - 1)) := by
  have hu := foldN_lt h
  unfold markB markK
  generalize foldN n = u at hu
  by_cases c0 : u = 0
  · exact ⟨0, by omega, by simp [wid, c0], by subst c0; simp [wid, nb], by simp⟩
  · by_cases c1 : u < 128
    · exact ⟨1, by omega, by simpa [wid] using c1, by simp [c0, c1, wid], by simp [wid]; omega⟩
    · by_cases c2 : u < 16384
      · exact ⟨2, by omega, by simpa [wid] using c2, by simp [c0, c1, c2, wid], by simp [wid]; omega⟩
      · by_cases c3 : u < 4294967296
        · exact ⟨3, by omega, by simpa [wid] using c3, by simp [c0, c1, c2, c3, wid], by simp [wid]; omega⟩
        · exact ⟨4, by omega, by simpa [wid] using hu, by simp [c0, c1, c2, c3, wid], by simp [wid]; omega⟩
theorem markK_B (k u : Nat) (hk : k ≤ 4) (hu : u < 2 ^ wid k) (hc : ¬(0 < k ∧ u < 2 ^ wid (k - 1))) : markB (openN u) = markK k u ∧ fits64 (openN u) := by
  have h64 : u < 2 ^ 64 := by
    have : wid k ≤ 64 := by unfold wid; (repeat' split) <;> omega
    exact Nat.lt_of_lt_of_le hu (Nat.pow_le_pow_right (by decide) this)
  refine ⟨?_, open_fits h64⟩
  unfold markB markK
  rw [fold_open]
  rcases (by omega : k = 0 ∨ k = 1 ∨ k = 2 ∨ k = 3 ∨ k = 4) with rfl | rfl | rfl | rfl | rfl
  · have : u = 0 := by simpa [wid] using hu
    subst this
    simp [wid, nb]
  · have h1 : u < 128 := by simpa [wid] using hu
    have h2 : u ≠ 0 := by simpa [wid] using hc
    simp [h1, h2, wid]
  · have h1 : u < 16384 := by simpa [wid] using hu
    have h2 : 128 ≤ u := by simpa [wid] using hc
    simp [h1, wid, show u ≠ 0 by omega, show ¬ u < 128 by omega]
  · have h1 : u < 4294967296 := by simpa [wid] using hu
    have h2 : 16384 ≤ u := by simpa [wid] using hc
    simp [h1, wid, show u ≠ 0 by omega, show ¬ u < 128 by omega, show ¬ u < 16384 by omega]
  · have h2 : 4294967296 ≤ u := by simpa [wid] using hc
    simp [wid, show u ≠ 0 by omega, show ¬ u < 128 by omega, show ¬ u < 16384 by omega, show ¬ u < 4294967296 by omega]
theorem decS_seg {b : List Int} {p q : Nat} {n : Int} : decS b p = some (n, q) ↔ fits64 n ∧ Seg b p (markB n) ∧ q = p + (markB n).length := by
  constructor
  · intro h
    unfold decS at h
    split at h
    case h_2 => cases h
    case h_1 k u q' hm =>
      split at h
      case isTrue => cases h
      case isFalse hc =>
        injection h with h
        injection h with h1 h2
        subst h1 h2
        obtain ⟨hk, hu, hs, hq⟩ := decM_seg.1 hm
        obtain ⟨e, hf⟩ := markK_B k u hk hu hc
        rw [e]
        exact ⟨hf, hs, hq⟩
  · rintro ⟨hf, hs, rfl⟩
    obtain ⟨k, hk, hu, e, hc⟩ := markB_K n hf
    rw [e] at hs
    unfold decS
    rw [decM_seg.2 ⟨hk, hu, hs, rfl⟩]
    dsimp only
    rw [if_neg hc, open_fold, e]
end Go.Proofs.Ythkpnnbjcendcaa.Pure
end
section
/- What bytes say: the points that would be put so. -/
set_option linter.unusedVariables false
set_option linter.unusedSimpArgs false
open Go.RowKit Go.Proofs.Ythkpnnbjcendcaa.X Go.Proofs.Ythkpnnbjcendcaa.Pl Go.Proofs.YthkpnnbjcendcaaW.PrintWords Go.Proofs.YthkpnnbjcendcaaW.PrintLast Go.Proofs.YthkpnnbjcendcaaW.PrintMore
namespace Go.Proofs.Ythkpnnbjcendcaa.Pure
/-- So many pairs of marks. -/
def decXY (f : List Int → Nat → Option (Int × Nat)) (b : List Int) : Nat → Nat → Option (List Int × List Int × Nat)
  | 0, p => some ([], [], p)
  | k + 1, p => match f b p with
    | none => none
    | some (x, p1) => match f b p1 with
      | none => none
      | some (y, p2) => match decXY f b k p2 with
        | none => none
        | some (xs, ys, q) => some (x :: xs, y :: ys, q)
def zipP (xs ys : List Int) : List S52 := List.zipWith (fun t v => ⟨t, v⟩) xs ys
theorem zipP_cons (x y : Int) (xs ys : List Int) : zipP (x :: xs) (y :: ys) = ⟨x, y⟩ :: zipP xs ys := rfl
theorem zipP_length (xs ys : List Int) (h : xs.length = ys.length) : (zipP xs ys).length = xs.length := by
  unfold zipP
  rw [List.length_zipWith]
  omega
theorem zipP_f0 : ∀ xs ys : List Int, xs.length = ys.length → (zipP xs ys).map (·.f0) = xs
  | [], [], _ => rfl
  | x :: xs, y :: ys, h => by rw [zipP_cons, List.map_cons, zipP_f0 xs ys (by simpa using h)]
  | [], y :: ys, h => by simp at h
  | x :: xs, [], h => by simp at h
theorem zipP_f1 : ∀ xs ys : List Int, xs.length = ys.length → (zipP xs ys).map (·.f1) = ys
  | [], [], _ => rfl
  | x :: xs, y :: ys, h => by rw [zipP_cons, List.map_cons, zipP_f1 xs ys (by simpa using h)]
  | [], y :: ys, h => by simp at h
  | x :: xs, [], h => by simp at h
theorem zipP_map (l : List S52) : zipP (l.map (·.f0)) (l.map (·.f1)) = l := by
  induction l with
  | nil => rfl
  | cons p l ih => rw [List.map_cons, List.map_cons, zipP_cons, ih]
theorem zipP_fit (xs ys : List Int) (hx : ∀ x ∈ xs, fits64 x) (hy : ∀ y ∈ ys, fits64 y) : fitP (zipP xs ys) := by
  intro p hp
  unfold zipP at hp
  obtain ⟨i, hi, rfl⟩ := List.mem_iff_getElem.1 hp
  rw [List.getElem_zipWith]
  exact ⟨hx _ (List.getElem_mem _), hy _ (List.getElem_mem _)⟩
theorem frs_fits (l : List Int) : ∀ a b, ∀ x ∈ frs a b l, fits64 x := by
  induction l with
  | nil => intro a b x hx; simp [frs] at hx
  | cons s l ih =>
    intro a b x hx
    rw [frs] at hx
    rcases List.mem_cons.1 hx with rfl | hx
    · exact fits_wrap _
    · exact ih _ _ x hx
theorem secs_fits (l : List Int) : ∀ a b, ∀ x ∈ secs a b l, fits64 x := by
  induction l with
  | nil => intro a b x hx; simp [secs] at hx
  | cons s l ih =>
    intro a b x hx
    rw [secs] at hx
    rcases List.mem_cons.1 hx with rfl | hx
    · exact fits_wrap _
    · exact ih _ _ x hx
theorem XY_seg (b : List Int) : ∀ k p, p ≤ 8 * b.length → ∀ xs ys q, decXY decS b k p = some (xs, ys, q) ↔ xs.length = k ∧ ys.length = k ∧ (∀ x ∈ xs, fits64 x) ∧ (∀ y ∈ ys, fits64 y) ∧ Seg b p (marks xs ys) ∧ q = p + (marks xs ys).length
  | 0, p, hp, xs, ys, q => by
    rw [decXY]
    constructor
    · intro h
      injection h with h
      injection h with h1 h
      injection h with h2 h3
      subst h1 h2 h3
      exact ⟨rfl, rfl, by simp, by simp, seg_nil hp, by simp [marks]⟩
    · rintro ⟨h1, h2, _, _, _, h5⟩
      have e1 := List.eq_nil_of_length_eq_zero h1
      have e2 := List.eq_nil_of_length_eq_zero h2
      subst e1 e2
      rw [h5]
      rfl
  | k + 1, p, hp, xs, ys, q => by
    rw [decXY]
    constructor
    · intro h
      split at h
      · cases h
      · split at h
        · cases h
        · split at h
          · cases h
          · rename_i x p1 h1 _ y p2 h2 _ xs' ys' q' hr
            injection h with h
            injection h with e1 h
            injection h with e2 e3
            subst e1 e2 e3
            obtain ⟨f1, s1, r1⟩ := decS_seg.1 h1
            obtain ⟨f2, s2, r2⟩ := decS_seg.1 h2
            have hp1 : p1 ≤ 8 * b.length := r1 ▸ s1.1
            have hp2 : p2 ≤ 8 * b.length := r2 ▸ s2.1
            obtain ⟨g1, g2, g3, g4, g5, g6⟩ := (XY_seg b k p2 hp2 xs' ys' q').1 hr
            refine ⟨by simp [g1], by simp [g2], ?_, ?_, ?_, ?_⟩
            · intro z hz
              rcases List.mem_cons.1 hz with rfl | hz
              · exact f1
              · exact g3 z hz
            · intro z hz
              rcases List.mem_cons.1 hz with rfl | hz
              · exact f2
              · exact g4 z hz
            · rw [marks, seg_app, seg_app]
              refine ⟨⟨s1, r1 ▸ s2⟩, ?_⟩
              rw [List.length_append, ← Nat.add_assoc, ← r1, ← r2]
              exact g5
            · rw [marks, List.length_append, List.length_append, g6, r2, r1]
              omega
    · rintro ⟨h1, h2, h3, h4, h5, h6⟩
      obtain ⟨x, xs', rfl⟩ := List.exists_cons_of_length_eq_add_one h1
      obtain ⟨y, ys', rfl⟩ := List.exists_cons_of_length_eq_add_one h2
      rw [marks, seg_app, seg_app] at h5
      obtain ⟨⟨s1, s2⟩, s3⟩ := h5
      rw [decS_seg.2 ⟨h3 x List.mem_cons_self, s1, rfl⟩]
      dsimp only
      rw [decS_seg.2 ⟨h4 y List.mem_cons_self, s2, rfl⟩]
      dsimp only
      rw [List.length_append, ← Nat.add_assoc] at s3
      have hp2 : p + (markB x).length + (markB y).length ≤ 8 * b.length := s2.1
      have g := (XY_seg b k _ hp2 xs' ys' (p + (markB x).length + (markB y).length + (marks xs' ys').length)).2 ⟨by simpa using h1, by simpa using h2, fun z hz => h3 z (List.mem_cons_of_mem _ hz), fun z hz => h4 z (List.mem_cons_of_mem _ hz), s3, rfl⟩
      rw [g]
      dsimp only
      rw [h6, marks, List.length_append, List.length_append]
      congr 3
      omega
/-- A number in groups of seven bits stands at the head of bytes at most one way. -/
theorem varint_inj : ∀ (n m : Nat) (r s : List Int), varint n ++ r = varint m ++ s → n = m ∧ r = s := by
  intro n
  induction n using Nat.strongRecOn with
  | _ n ih =>
    intro m r s h
    by_cases hn : n < 128
    · rw [varint_small hn] at h
      by_cases hm : m < 128
      · rw [varint_small hm] at h
        simp only [List.cons_append, List.nil_append, List.cons.injEq] at h
        exact ⟨by omega, h.2⟩
      · rw [varint_big hm] at h
        simp only [List.cons_append, List.nil_append, List.cons.injEq] at h
        omega
    · rw [varint_big hn] at h
      by_cases hm : m < 128
      · rw [varint_small hm] at h
        simp only [List.cons_append, List.nil_append, List.cons.injEq] at h
        omega
      · rw [varint_big hm] at h
        simp only [List.cons_append, List.cons.injEq] at h
        obtain ⟨h1, h2⟩ := ih (n / 128) (by omega) (m / 128) r s h.2
        exact ⟨by omega, h2⟩
theorem byt_app {a b : List Int} (h : Byt (a ++ b)) : Byt b := fun x hx => h x (List.mem_append_right _ hx)
/-- Bytes whose first bits these are, 0s behind them, and no byte more. -/
theorem seg_pack {b : List Int} {L : List Bool} (hb : Byt b) (hs : Seg b 0 L) (hl : (L.length + 7) / 8 = b.length) (hc : clr b (L.length : Int) = true) (hm : L.length ≤ 262144) : b = pack L := by
  refine holds_eq ⟨⟨hb, hl.symm, hm, ?_⟩, ?_⟩
  · intro q hq hq2
    unfold clr at hc
    rw [if_neg (by omega)] at hc
    exact (of_decide_eq_true hc) q hq (by omega)
  · intro q hq
    have := hs.2 q hq
    rwa [Nat.zero_add] at this
theorem pack_seg (L : List Bool) : Seg (pack L) 0 L := by
  refine ⟨by rw [pack_length]; omega, fun j hj => ?_⟩
  rw [Nat.zero_add, pack_bt L j (by rw [pack_length]; omega)]
/-- Points out of bytes, as the program finds them. -/
theorem dec_put {n : Nat} {r : List Int} {xs ys : List Int} {q : Nat} (hb : Byt r) (hn : n ≤ 1024) (h : decXY decS r n 0 = some (xs, ys, q)) :
    fitP (zipP (frs 0 0 xs) (frs 0 0 ys)) ∧ (zipP (frs 0 0 xs) (frs 0 0 ys)).length = n ∧ ((rightB (zipP (frs 0 0 xs) (frs 0 0 ys)) = true ∧ (q + 7) / 8 = r.length ∧ clr r (q : Int) = true) ↔ putR (zipP (frs 0 0 xs) (frs 0 0 ys)) = (varint n ++ r, 0)) := by
  obtain ⟨h1, h2, h3, h4, h5, h6⟩ := (XY_seg r n 0 (Nat.zero_le _) xs ys q).1 h
  have hL : (zipP (frs 0 0 xs) (frs 0 0 ys)).length = n := by rw [zipP_length _ _ (by rw [frs_length, frs_length, h1, h2]), frs_length, h1]
  have hM : marksP 0 0 0 0 (zipP (frs 0 0 xs) (frs 0 0 ys)) = marks xs ys := by
    unfold marksP
    rw [zipP_f0 _ _ (by rw [frs_length, frs_length, h1, h2]), zipP_f1 _ _ (by rw [frs_length, frs_length, h1, h2]), secs_frs _ _ _ h3, secs_frs _ _ _ h4]
  have hml := marksP_length (zipP (frs 0 0 xs) (frs 0 0 ys)) 0 0 0 0
  rw [hM, hL] at hml
  rw [Nat.zero_add] at h6
  subst h6
  refine ⟨zipP_fit _ _ (frs_fits _ _ _) (frs_fits _ _ _), hL, ?_⟩
  constructor
  · rintro ⟨c1, c2, c3⟩
    unfold putR putB
    rw [if_neg (by omega), if_neg (by rw [c1]; decide), hL, hM, ← seg_pack hb h5 c2 c3 (by omega)]
  · intro hp
    unfold putR at hp
    rw [if_neg (by omega)] at hp
    split at hp
    · injection hp with _ hp
      exact absurd hp (by decide)
    · rename_i hr
      injection hp with hp _
      unfold putB at hp
      rw [hL, hM] at hp
      have hr2 := (varint_inj _ _ _ _ hp).2
      subst hr2
      exact ⟨by simpa using hr, by rw [pack_length], clr_pack _⟩
/-- Points that are put come out again. -/
theorem put_dec {l : List S52} {b : List Int} (hf : fitP l) (h : putR l = (b, 0)) :
    ∃ r xs ys q, b = varint l.length ++ r ∧ l.length ≤ 1024 ∧ decXY decS r l.length 0 = some (xs, ys, q) ∧ zipP (frs 0 0 xs) (frs 0 0 ys) = l := by
  unfold putR at h
  split at h
  · injection h with _ h
    exact absurd h (by decide)
  · rename_i hl
    split at h
    · injection h with _ h
      exact absurd h (by decide)
    · injection h with h _
      subst h
      refine ⟨pack (marksP 0 0 0 0 l), secs 0 0 (l.map (·.f0)), secs 0 0 (l.map (·.f1)), (marksP 0 0 0 0 l).length, rfl, by omega, ?_, ?_⟩
      · rw [XY_seg _ _ _ (Nat.zero_le _)]
        refine ⟨by rw [secs_length, List.length_map], by rw [secs_length, List.length_map], secs_fits _ _ _, secs_fits _ _ _, pack_seg _, by rw [Nat.zero_add]; rfl⟩
      · rw [frs_secs, frs_secs, zipP_map]
        · intro x hx
          obtain ⟨p, hp, rfl⟩ := List.mem_map.1 hx
          exact (hf p hp).2
        · intro x hx
          obtain ⟨p, hp, rfl⟩ := List.mem_map.1 hx
          exact (hf p hp).1
open Classical in
/-- The points that would be put so. -/
noncomputable def takeR (b : List Int) : List S52 × Int := if h : ∃ l, fitP l ∧ putR l = (b, 0) then (h.choose, 0) else ([], 6)
theorem put_inj {l m : List S52} {b : List Int} (hl : fitP l) (hm : fitP m) (h1 : putR l = (b, 0)) (h2 : putR m = (b, 0)) : l = m := by
  obtain ⟨r, xs, ys, q, e1, _, d1, rfl⟩ := put_dec hl h1
  obtain ⟨s, xs', ys', q', e2, _, d2, rfl⟩ := put_dec hm h2
  obtain ⟨e3, e4⟩ := varint_inj _ _ _ _ (e1.symm.trans e2)
  subst e4
  rw [e3, d2] at d1
  injection d1 with d1
  injection d1 with h1 d1
  injection d1 with h2 h3
  rw [h1, h2]
theorem take_put {l : List S52} {b : List Int} (hl : fitP l) (h : putR l = (b, 0)) : takeR b = (l, 0) := by
  have hex : ∃ l, fitP l ∧ putR l = (b, 0) := ⟨l, hl, h⟩
  unfold takeR
  rw [dif_pos hex, put_inj hex.choose_spec.1 hl hex.choose_spec.2 h]
theorem take_no {b : List Int} (h : ∀ l, fitP l → putR l ≠ (b, 0)) : takeR b = ([], 6) := by
  unfold takeR
  rw [dif_neg]
  rintro ⟨l, h1, h2⟩
  exact h l h1 h2
theorem take_ok {b : List Int} (h : (takeR b).2 = 0) : fitP (takeR b).1 ∧ putR (takeR b).1 = (b, 0) := by
  unfold takeR at h ⊢
  split
  · rename_i hex
    exact hex.choose_spec
  · rename_i hex
    rw [dif_neg hex] at h
    exact absurd h (by decide)
theorem take_two (b : List Int) : ((takeR b).2 = 0 ∨ (takeR b).2 = 6 ∧ (takeR b).1 = []) := by
  unfold takeR
  split
  · exact .inl rfl
  · exact .inr ⟨rfl, rfl⟩
/-- No number stands at the head. -/
theorem take_none {b : List Int} (h : ∀ n r, n < 2 ^ 64 → b ≠ varint n ++ r) : takeR b = ([], 6) := take_no fun l hf hp => by
  obtain ⟨r, _, _, _, e, hl, _⟩ := put_dec hf hp
  exact h l.length r (by omega) e
theorem take_long {n : Nat} {r : List Int} (h : n > 1024) : takeR (varint n ++ r) = ([], 6) := take_no fun l hf hp => by
  obtain ⟨s, _, _, _, e, hl, _⟩ := put_dec hf hp
  have := (varint_inj _ _ _ _ e).1
  omega
theorem take_strict {n : Nat} {r : List Int} (h : decXY decS r n 0 = none) : takeR (varint n ++ r) = ([], 6) := take_no fun l hf hp => by
  obtain ⟨s, xs, ys, q, e, hl, hd, _⟩ := put_dec hf hp
  obtain ⟨rfl, rfl⟩ := varint_inj _ _ _ _ e
  rw [hd] at h
  cases h
/-- The program's answer. -/
theorem take_prog {n : Nat} {r : List Int} {xs ys : List Int} {q : Nat} (hb : Byt r) (hn : n ≤ 1024) (h : decXY decS r n 0 = some (xs, ys, q)) :
    takeR (varint n ++ r) = if rightB (zipP (frs 0 0 xs) (frs 0 0 ys)) = true ∧ (q + 7) / 8 = r.length ∧ clr r (q : Int) = true then (zipP (frs 0 0 xs) (frs 0 0 ys), 0) else ([], 6) := by
  obtain ⟨hf, hl, hiff⟩ := dec_put hb hn h
  split
  · rename_i hc
    exact take_put hf (hiff.1 hc)
  · rename_i hc
    refine take_no fun l hfl hp => hc (hiff.2 ?_)
    obtain ⟨s, xs', ys', q', e, _, hd, e2⟩ := put_dec hfl hp
    obtain ⟨rfl, rfl⟩ := varint_inj _ _ _ _ e
    rw [h] at hd
    injection hd with hd
    injection hd with h1 hd
    injection hd with h2 h3
    subst h1 h2
    rw [e2]
    exact hp
end Go.Proofs.Ythkpnnbjcendcaa.Pure
end
section
-- By xprint.py, out of the translation's own print. Lean checks it.
namespace Go.Proofs.Ythkpnnbjcendcaa.X
open Go.RowKit Go.Proofs.YthkpnnbjcendcaaW.PrintWords Go.Proofs.YthkpnnbjcendcaaW.PrintLast Go.Proofs.YthkpnnbjcendcaaW.PrintMore
attribute [local go_sem] max2_int min2_int max_two min_two max_three min_three max_four min_four   -- for this text's walks alone
set_option linter.unusedVariables false
set_option linter.unusedSimpArgs false

/-- How long the numbers below 256 are. -/
def lenTab : ByteArray := ⟨(([0, 1, 2, 2, 3, 3, 3, 3, 4, 4, 4, 4, 4, 4, 4, 4, 5, 5, 5, 5, 5, 5, 5, 5, 5, 5, 5, 5, 5, 5, 5, 5, 6, 6, 6, 6, 6, 6, 6, 6, 6, 6, 6, 6, 6, 6, 6, 6, 6, 6, 6, 6, 6, 6, 6, 6, 6, 6, 6, 6, 6, 6, 6, 6, 7, 7, 7, 7, 7, 7, 7, 7, 7, 7, 7, 7, 7, 7, 7, 7, 7, 7, 7, 7, 7, 7, 7, 7, 7, 7, 7, 7, 7, 7, 7, 7, 7, 7, 7, 7, 7, 7, 7, 7, 7, 7, 7, 7, 7, 7, 7, 7, 7, 7, 7, 7, 7, 7, 7, 7, 7, 7, 7, 7, 7, 7, 7, 7] : List UInt8).append [8, 8, 8, 8, 8, 8, 8, 8, 8, 8, 8, 8, 8, 8, 8, 8, 8, 8, 8, 8, 8, 8, 8, 8, 8, 8, 8, 8, 8, 8, 8, 8, 8, 8, 8, 8, 8, 8, 8, 8, 8, 8, 8, 8, 8, 8, 8, 8, 8, 8, 8, 8, 8, 8, 8, 8, 8, 8, 8, 8, 8, 8, 8, 8, 8, 8, 8, 8, 8, 8, 8, 8, 8, 8, 8, 8, 8, 8, 8, 8, 8, 8, 8, 8, 8, 8, 8, 8, 8, 8, 8, 8, 8, 8, 8, 8, 8, 8, 8, 8, 8, 8, 8, 8, 8, 8, 8, 8, 8, 8, 8, 8, 8, 8, 8, 8, 8, 8, 8, 8, 8, 8, 8, 8, 8, 8, 8, 8]).toArray⟩

set_option maxRecDepth 100000 in
theorem lenTab_size : lenTab.size = 256 := rfl
theorem bt_tab (i : Int) (h : i.toNat < lenTab.size) : bt lenTab i = ((lenTab[i.toNat]'h).toNat : Int) := dif_pos h
def bits_Len64.j0 : Nat → Int → Int → Option (Int)
  | 0, _, _ => none
  | k + 1, x0, x2 => if x0 ≥ 65536 then (if (x0 / 65536) ≥ 256 then (if 0 ≤ (((x0 / 65536) / 256) % 256) then (if (((x0 / 65536) / 256) % 256) < 256 then (some (wrap64 ((wrap64 ((wrap64 (x2 + 16)) + 8)) + (wrap64 (bt lenTab (((x0 / 65536) / 256) % 256)))))) else (none)) else (none)) else (if 0 ≤ ((x0 / 65536) % 256) then (if ((x0 / 65536) % 256) < 256 then (some (wrap64 ((wrap64 (x2 + 16)) + (wrap64 (bt lenTab ((x0 / 65536) % 256)))))) else (none)) else (none))) else (if x0 ≥ 256 then (if 0 ≤ ((x0 / 256) % 256) then (if ((x0 / 256) % 256) < 256 then (some (wrap64 ((wrap64 (x2 + 8)) + (wrap64 (bt lenTab ((x0 / 256) % 256)))))) else (none)) else (none)) else (if 0 ≤ ((x0) % 256) then (if ((x0) % 256) < 256 then (some (wrap64 (x2 + (wrap64 (bt lenTab ((x0) % 256)))))) else (none)) else (none)))
def bits_Len64.f (k : Nat) (a0 : Int) : Option (Int) := if a0 ≥ 4294967296 then (bits_Len64.j0 k (a0 / 4294967296) 32) else (bits_Len64.j0 k a0 0)
set_option maxHeartbeats 8000000 in
set_option maxRecDepth 100000 in
theorem bits_Len64.calls (k : Nat) (a0 : Int) (r : Int) (w : World) (h : bits_Len64.f k a0 = some r) :
    Calls Try.prog 99 #[.int .u64 a0] w fun e w' => e = .returned (.int .i64 r) ∧ Drawn0 w w' := by
  have H : (if a0 ≥ 4294967296 then (bits_Len64.j0 k (a0 / 4294967296) 32) else (bits_Len64.j0 k a0 0)) = some r := h
  clear h
  have HC2 := Aside0.mk H
  clear H
  go_enter Try.func99, Try.ntmps99
  go_upto_if 4 with (fail)
  go_cut [0, 2] (fun v0 v2 wc => ∃ (kq : Nat) (x0_1 : Int) (x2_1 : Int), v0 = .int .u64 x0_1 ∧ v2 = .int .i64 x2_1 ∧ Aside0 (bits_Len64.j0 kq x0_1 x2_1 = some r) ∧ Aside0 (kq ≤ k) ∧ Drawn0 w wc)
  case first =>
    have H := HC2.out
    clear HC2
    by_cases c3 : a0 ≥ 4294967296
    · rw [if_pos c3] at H
      have c3b0 : decide (4294967296 ≤ a0) = true := decide_eq_true c3
      clear c3
      (first | rw [c3b0] | (simp only [i64_w, i32_w]; rw [c3b0]) | skip)
      have H' := Aside0.mk H
      clear H
      go_wp2
      go_meet
      case rel => exact ⟨_, (a0 / 4294967296), (32), (by first | rfl | (simp; done) | (simp [*]; done) | (simp <;> grind)), (by first | rfl | (simp; done) | (simp [*]; done) | (simp <;> grind)), H', ⟨by first | omega | exact Nat.le_refl _⟩, by repeat (first | exact Drawn0.refl _ | apply Drawn0.step)⟩
    · rw [if_neg c3] at H
      have c3b0 : decide (4294967296 ≤ a0) = false := decide_eq_false c3
      clear c3
      (first | rw [c3b0] | (simp only [i64_w, i32_w]; rw [c3b0]) | skip)
      have H' := Aside0.mk H
      clear H
      go_wp2
      go_meet
      case rel => exact ⟨_, (a0), (0), (by first | rfl | (simp; done) | (simp [*]; done) | (simp <;> grind)), (by first | rfl | (simp; done) | (simp [*]; done) | (simp <;> grind)), H', ⟨by first | omega | exact Nat.le_refl _⟩, by repeat (first | exact Drawn0.refl _ | apply Drawn0.step)⟩
  case rest =>
    clear HC2
    try clear p2
    try clear c3
    try clear c3b0
    obtain ⟨kq, x0_1, x2_1, rfl, rfl, HA, HJ1, ⟨mc1, rfl⟩⟩ := hcut
    cases kq with
    | zero => exact absurd HA.out (by simp [bits_Len64.j0])
    | succ kj1 =>
      have H := HA.out
      clear HA
      simp only [bits_Len64.j0] at H
      by_cases c4 : x0_1 ≥ 65536
      · rw [if_pos c4] at H
        have c4b0 : decide (65536 ≤ x0_1) = true := decide_eq_true c4
        clear c4
        by_cases c5 : (x0_1 / 65536) ≥ 256
        · rw [if_pos c5] at H
          have c5b0 : decide (256 ≤ (x0_1 / 65536)) = true := decide_eq_true c5
          clear c5
          obtain ⟨ji6, hji6⟩ : ∃ j_ : Int, (((x0_1 / 65536) / 256) % 256) = j_ := ⟨_, rfl⟩
          replace H : (if 0 ≤ (ji6) then (if (ji6) < 256 then (some (wrap64 ((wrap64 ((wrap64 (x2_1 + 16)) + 8)) + (wrap64 (bt lenTab (ji6)))))) else (none)) else (none)) = some r := by first | (rw [hji6] at H; exact H) | (simp only [hji6] at H ⊢; exact H)
          by_cases c7 : 0 ≤ (ji6)
          · rw [if_pos c7] at H
            have c7b0 : decide (0 ≤ (ji6)) = true := decide_eq_true c7
            clear c7
            by_cases c8 : (ji6) < 256
            · rw [if_pos c8] at H
              have c8b0 : decide ((ji6) < 256) = true := decide_eq_true c8
              clear c8
              obtain rfl := Option.some.inj H
              have p9 : 0 ≤ ((ji6) : Int) := of_decide_eq_true (by first | (with_reducible assumption) | assumption)
              have q9 : (ji6) < (256 : Int) := of_decide_eq_true (by first | (with_reducible assumption) | assumption)
              have hx9 := bt_at lenTab (ji6)
              replace p9 := eq_true p9
              replace q9 := eq_true q9
              go_wp2
              go_ret
              exact ⟨by first | (rw [bt_tab _ (show _ < lenTab.size by rw [lenTab_size]; omega)]; rfl) | (simp only [← hji6] <;> (first | rfl | simp)) | (simp [*]; done) | (simp <;> grind), by repeat (first | exact Drawn0.refl _ | apply Drawn0.step)⟩
            · rw [if_neg c8] at H
              exact absurd H (by simp)
          · rw [if_neg c7] at H
            exact absurd H (by simp)
        · rw [if_neg c5] at H
          have c5b0 : decide (256 ≤ (x0_1 / 65536)) = false := decide_eq_false c5
          clear c5
          obtain ⟨ji10, hji10⟩ : ∃ j_ : Int, ((x0_1 / 65536) % 256) = j_ := ⟨_, rfl⟩
          replace H : (if 0 ≤ (ji10) then (if (ji10) < 256 then (some (wrap64 ((wrap64 (x2_1 + 16)) + (wrap64 (bt lenTab (ji10)))))) else (none)) else (none)) = some r := by first | (rw [hji10] at H; exact H) | (simp only [hji10] at H ⊢; exact H)
          by_cases c11 : 0 ≤ (ji10)
          · rw [if_pos c11] at H
            have c11b0 : decide (0 ≤ (ji10)) = true := decide_eq_true c11
            clear c11
            by_cases c12 : (ji10) < 256
            · rw [if_pos c12] at H
              have c12b0 : decide ((ji10) < 256) = true := decide_eq_true c12
              clear c12
              obtain rfl := Option.some.inj H
              have p13 : 0 ≤ ((ji10) : Int) := of_decide_eq_true (by first | (with_reducible assumption) | assumption)
              have q13 : (ji10) < (256 : Int) := of_decide_eq_true (by first | (with_reducible assumption) | assumption)
              have hx13 := bt_at lenTab (ji10)
              replace p13 := eq_true p13
              replace q13 := eq_true q13
              go_wp2
              go_ret
              exact ⟨by first | (rw [bt_tab _ (show _ < lenTab.size by rw [lenTab_size]; omega)]; rfl) | (simp only [← hji10] <;> (first | rfl | simp)) | (simp [*]; done) | (simp <;> grind), by repeat (first | exact Drawn0.refl _ | apply Drawn0.step)⟩
            · rw [if_neg c12] at H
              exact absurd H (by simp)
          · rw [if_neg c11] at H
            exact absurd H (by simp)
      · rw [if_neg c4] at H
        have c4b0 : decide (65536 ≤ x0_1) = false := decide_eq_false c4
        clear c4
        by_cases c14 : x0_1 ≥ 256
        · rw [if_pos c14] at H
          have c14b0 : decide (256 ≤ x0_1) = true := decide_eq_true c14
          clear c14
          obtain ⟨ji15, hji15⟩ : ∃ j_ : Int, ((x0_1 / 256) % 256) = j_ := ⟨_, rfl⟩
          replace H : (if 0 ≤ (ji15) then (if (ji15) < 256 then (some (wrap64 ((wrap64 (x2_1 + 8)) + (wrap64 (bt lenTab (ji15)))))) else (none)) else (none)) = some r := by first | (rw [hji15] at H; exact H) | (simp only [hji15] at H ⊢; exact H)
          by_cases c16 : 0 ≤ (ji15)
          · rw [if_pos c16] at H
            have c16b0 : decide (0 ≤ (ji15)) = true := decide_eq_true c16
            clear c16
            by_cases c17 : (ji15) < 256
            · rw [if_pos c17] at H
              have c17b0 : decide ((ji15) < 256) = true := decide_eq_true c17
              clear c17
              obtain rfl := Option.some.inj H
              have p18 : 0 ≤ ((ji15) : Int) := of_decide_eq_true (by first | (with_reducible assumption) | assumption)
              have q18 : (ji15) < (256 : Int) := of_decide_eq_true (by first | (with_reducible assumption) | assumption)
              have hx18 := bt_at lenTab (ji15)
              replace p18 := eq_true p18
              replace q18 := eq_true q18
              go_wp2
              go_ret
              exact ⟨by first | (rw [bt_tab _ (show _ < lenTab.size by rw [lenTab_size]; omega)]; rfl) | (simp only [← hji15] <;> (first | rfl | simp)) | (simp [*]; done) | (simp <;> grind), by repeat (first | exact Drawn0.refl _ | apply Drawn0.step)⟩
            · rw [if_neg c17] at H
              exact absurd H (by simp)
          · rw [if_neg c16] at H
            exact absurd H (by simp)
        · rw [if_neg c14] at H
          have c14b0 : decide (256 ≤ x0_1) = false := decide_eq_false c14
          clear c14
          obtain ⟨ji19, hji19⟩ : ∃ j_ : Int, ((x0_1) % 256) = j_ := ⟨_, rfl⟩
          replace H : (if 0 ≤ (ji19) then (if (ji19) < 256 then (some (wrap64 (x2_1 + (wrap64 (bt lenTab (ji19)))))) else (none)) else (none)) = some r := by first | (rw [hji19] at H; exact H) | (simp only [hji19] at H ⊢; exact H)
          by_cases c20 : 0 ≤ (ji19)
          · rw [if_pos c20] at H
            have c20b0 : decide (0 ≤ (ji19)) = true := decide_eq_true c20
            clear c20
            by_cases c21 : (ji19) < 256
            · rw [if_pos c21] at H
              have c21b0 : decide ((ji19) < 256) = true := decide_eq_true c21
              clear c21
              obtain rfl := Option.some.inj H
              have p22 : 0 ≤ ((ji19) : Int) := of_decide_eq_true (by first | (with_reducible assumption) | assumption)
              have q22 : (ji19) < (256 : Int) := of_decide_eq_true (by first | (with_reducible assumption) | assumption)
              have hx22 := bt_at lenTab (ji19)
              replace p22 := eq_true p22
              replace q22 := eq_true q22
              go_wp2
              go_ret
              exact ⟨by first | (rw [bt_tab _ (show _ < lenTab.size by rw [lenTab_size]; omega)]; rfl) | (simp only [← hji19] <;> (first | rfl | simp)) | (simp [*]; done) | (simp <;> grind), by repeat (first | exact Drawn0.refl _ | apply Drawn0.step)⟩
            · rw [if_neg c21] at H
              exact absurd H (by simp)
          · rw [if_neg c20] at H
            exact absurd H (by simp)

end Go.Proofs.Ythkpnnbjcendcaa.X
end
section
/- The number at the head of bytes, read byte by byte. -/
set_option linter.unusedVariables false
set_option linter.unusedSimpArgs false
open Go.RowKit Go.Proofs.Ythkpnnbjcendcaa.X Go.Proofs.Ythkpnnbjcendcaa.Pl Go.Proofs.YthkpnnbjcendcaaW.PrintWords Go.Proofs.YthkpnnbjcendcaaW.PrintLast Go.Proofs.YthkpnnbjcendcaaW.PrintMore
namespace Go.Proofs.Ythkpnnbjcendcaa.Pure
/-- L is how many bits n has. -/
def Long (n L : Nat) : Prop := n < 2 ^ L ∧ (L = 0 ∨ 2 ^ (L - 1) ≤ n)
theorem long_shift {n k L : Nat} (h : Long (n / 2 ^ k) L) (hL : L ≠ 0) : Long n (L + k) := by
  obtain ⟨h1, h2⟩ := h
  refine ⟨?_, .inr ?_⟩
  · rw [Nat.pow_add]
    exact (Nat.div_lt_iff_lt_mul (Nat.two_pow_pos k)).1 h1
  · rcases h2 with h2 | h2
    · exact absurd h2 hL
    · rw [show L + k - 1 = (L - 1) + k by omega, Nat.pow_add]
      exact (Nat.le_div_iff_mul_le (Nat.two_pow_pos k)).1 h2
def tabN (x : Nat) : Nat := if x = 0 then 0 else if x < 2 then 1 else if x < 4 then 2 else if x < 8 then 3 else if x < 16 then 4 else if x < 32 then 5 else if x < 64 then 6 else if x < 128 then 7 else 8
set_option maxRecDepth 100000 in
theorem tab_all : ∀ x : Nat, x < 256 → Go.Proofs.YthkpnnbjcendcaaW.PrintWords.bt lenTab (x : Int) = ((tabN x : Nat) : Int) := by decide +kernel
theorem tab_long {x : Nat} (h : x < 256) : Long x (tabN x) := by
  unfold tabN Long
  (repeat' split) <;> simp <;> omega
theorem tab_pos {x : Nat} (h : 0 < x) : tabN x ≠ 0 := by
  unfold tabN
  (repeat' split) <;> omega
theorem tab_le (x : Nat) : tabN x ≤ 8 := by
  unfold tabN
  (repeat' split) <;> omega
theorem len_j0 (k : Nat) (x : Nat) (z : Nat) (hx : x < 4294967296) (hz : z ≤ 32) : ∃ L : Nat, bits_Len64.j0 (k + 1) (x : Int) (z : Int) = some ((z + L : Nat) : Int) ∧ Long x L ∧ L ≤ 32 := by
  rw [bits_Len64.j0]
  by_cases c0 : x ≥ 65536
  · rw [if_pos (by omega)]
    by_cases c1 : x / 65536 ≥ 256
    · rw [if_pos (by omega)]
      have e : ((x : Int) / 65536 / 256) % 256 = ((x / 2 ^ 24 : Nat) : Int) := by omega
      rw [e, if_pos (by omega), if_pos (by omega), tab_all _ (by omega)]
      have hp := tab_pos (x := x / 2 ^ 24) (by omega)
      have h8 := tab_le (x / 2 ^ 24)
      have hl := long_shift (tab_long (x := x / 2 ^ 24) (by omega)) hp
      generalize tabN (x / 2 ^ 24) = t at *
      refine ⟨t + 24, ?_, hl, by omega⟩
      rw [w64 (x := (z : Int) + 16) (by omega) (by omega), w64 (x := (z : Int) + 16 + 8) (by omega) (by omega), w64 (x := (t : Int)) (by omega) (by omega), w64 (by omega) (by omega)]
      congr 1
      omega
    · rw [if_neg (by omega)]
      have e : ((x : Int) / 65536) % 256 = ((x / 2 ^ 16 : Nat) : Int) := by omega
      rw [e, if_pos (by omega), if_pos (by omega), tab_all _ (by omega)]
      have hp := tab_pos (x := x / 2 ^ 16) (by omega)
      have h8 := tab_le (x / 2 ^ 16)
      have hl := long_shift (tab_long (x := x / 2 ^ 16) (by omega)) hp
      generalize tabN (x / 2 ^ 16) = t at *
      refine ⟨t + 16, ?_, hl, by omega⟩
      rw [w64 (x := (z : Int) + 16) (by omega) (by omega), w64 (x := (t : Int)) (by omega) (by omega), w64 (by omega) (by omega)]
      congr 1
      omega
  · rw [if_neg (by omega)]
    by_cases c1 : x ≥ 256
    · rw [if_pos (by omega)]
      have e : ((x : Int) / 256) % 256 = ((x / 2 ^ 8 : Nat) : Int) := by omega
      rw [e, if_pos (by omega), if_pos (by omega), tab_all _ (by omega)]
      have hp := tab_pos (x := x / 2 ^ 8) (by omega)
      have h8 := tab_le (x / 2 ^ 8)
      have hl := long_shift (tab_long (x := x / 2 ^ 8) (by omega)) hp
      generalize tabN (x / 2 ^ 8) = t at *
      refine ⟨t + 8, ?_, hl, by omega⟩
      rw [w64 (x := (z : Int) + 8) (by omega) (by omega), w64 (x := (t : Int)) (by omega) (by omega), w64 (by omega) (by omega)]
      congr 1
      omega
    · rw [if_neg (by omega)]
      have e : (x : Int) % 256 = (x : Int) := by omega
      rw [e, if_pos (by omega), if_pos (by omega), tab_all _ (by omega)]
      have h8 := tab_le x
      have hl := tab_long (x := x) (by omega)
      generalize tabN x = t at *
      refine ⟨t, ?_, hl, by omega⟩
      rw [w64 (x := (t : Int)) (by omega) (by omega), w64 (by omega) (by omega)]
      congr 1
theorem len_ev (k : Nat) (n : Nat) (hn : n < 2 ^ 64) : ∃ L : Nat, bits_Len64.f (k + 1) (n : Int) = some (L : Int) ∧ Long n L ∧ L ≤ 64 := by
  unfold bits_Len64.f
  by_cases c : n ≥ 4294967296
  · rw [if_pos (by omega)]
    obtain ⟨L, h1, h2, h3⟩ := len_j0 k (n / 2 ^ 32) 32 (by omega) (by decide)
    rw [show (n : Int) / 4294967296 = ((n / 2 ^ 32 : Nat) : Int) by omega]
    have hL : L ≠ 0 := by
      rintro rfl
      have := h2.1
      simp at this
      omega
    refine ⟨L + 32, ?_, long_shift h2 hL, by omega⟩
    rw [show (32 : Int) = ((32 : Nat) : Int) from rfl, h1]
    congr 2
    omega
  · rw [if_neg (by omega)]
    obtain ⟨L, h1, h2, h3⟩ := len_j0 k n 0 (by omega) (by decide)
    refine ⟨L, ?_, h2, by omega⟩
    rw [show (0 : Int) = ((0 : Nat) : Int) from rfl, h1, Nat.zero_add]
/-- Would fewer bytes do? -/
theorem long_groups {n L i : Nat} (h : Long n L) (hn : n < 2 ^ (7 * (i + 1))) : i + 1 = max 1 ((L + 6) / 7) ↔ i = 0 ∨ 2 ^ (7 * i) ≤ n := by
  obtain ⟨h1, h2⟩ := h
  have hle : L ≤ 7 * (i + 1) := by
    rcases h2 with rfl | h2
    · omega
    · have := Nat.lt_of_le_of_lt h2 hn
      have := (Nat.pow_lt_pow_iff_right (by decide)).1 this
      omega
  by_cases hb : 2 ^ (7 * i) ≤ n
  · have := (Nat.pow_lt_pow_iff_right (by decide)).1 (Nat.lt_of_le_of_lt hb h1)
    omega
  · have : L ≤ 7 * i := by
      rcases h2 with rfl | h2
      · omega
      · have := (Nat.pow_lt_pow_iff_right (by decide)).1 (Nat.lt_of_le_of_lt h2 (Nat.lt_of_not_le hb))
        omega
    omega
/-- So many bytes are read, that come to so much, and more follow. -/
def Some7 (b : List Int) (i acc : Nat) : Prop := acc < 128 ^ i ∧ ∀ m r, b = varint m ++ r ↔ ∃ q, m = acc + 128 ^ i * q ∧ (i = 0 ∨ 0 < q) ∧ b.drop i = varint q ++ r
theorem some_start (b : List Int) : Some7 b 0 0 := by
  refine ⟨by decide, fun m r => ⟨fun h => ⟨m, by simp, .inl rfl, by simpa using h⟩, ?_⟩⟩
  rintro ⟨q, h1, _, h3⟩
  have : m = q := by simpa using h1
  subst this
  simpa using h3
theorem drop_at {b : List Int} {i : Nat} {c : Nat} (hi : i < b.length) (hc : b.getD i 0 = (c : Int)) : b.drop i = (c : Int) :: b.drop (i + 1) := by
  rw [List.drop_eq_getElem_cons hi, ← hc, List.getD_eq_getElem?_getD, List.getElem?_eq_getElem hi]
  rfl
theorem some_more {b : List Int} {i acc c : Nat} (h : Some7 b i acc) (hi : i < b.length) (hc : b.getD i 0 = (c : Int)) (hc1 : 128 ≤ c) (hc2 : c < 256) : Some7 b (i + 1) (acc + (c % 128) * 128 ^ i) := by
  obtain ⟨h1, h2⟩ := h
  have hcm : c % 128 = c - 128 := by omega
  refine ⟨?_, fun m r => ?_⟩
  · have : c % 128 ≤ 127 := by omega
    have := Nat.mul_le_mul_right (128 ^ i) this
    rw [Nat.pow_succ]
    omega
  · rw [h2 m r, drop_at hi hc]
    constructor
    · rintro ⟨q, e1, e2, e3⟩
      by_cases hq : q < 128
      · rw [varint_small hq] at e3
        simp only [List.cons_append, List.nil_append, List.cons.injEq] at e3
        omega
      · rw [varint_big hq] at e3
        simp only [List.cons_append, List.cons.injEq] at e3
        refine ⟨q / 128, ?_, .inr (by omega), e3.2⟩
        have e4 : q = c % 128 + 128 * (q / 128) := by omega
        rw [e1, Nat.pow_succ]
        conv => lhs; rw [e4]
        rw [Nat.mul_add, Nat.mul_comm (128 ^ i) (c % 128), Nat.mul_assoc (128 ^ i) 128, Nat.add_assoc]
    · rintro ⟨q, e1, e2, e3⟩
      refine ⟨c % 128 + 128 * q, ?_, .inr (by omega), ?_⟩
      · rw [e1, Nat.pow_succ, Nat.mul_add, Nat.mul_comm (128 ^ i) (c % 128), Nat.mul_assoc (128 ^ i) 128, Nat.add_assoc]
      · rw [varint_big (by omega), show (c % 128 + 128 * q) / 128 = q by omega, show (c % 128 + 128 * q) % 128 + 128 = c by omega, e3]
        rfl
theorem some_end {b : List Int} {i acc c : Nat} (h : Some7 b i acc) (hi : i < b.length) (hc : b.getD i 0 = (c : Int)) (hc1 : c < 128) (m : Nat) (r : List Int) : b = varint m ++ r ↔ m = acc + c * 128 ^ i ∧ (i = 0 ∨ 0 < c) ∧ r = b.drop (i + 1) := by
  rw [h.2 m r, drop_at hi hc]
  constructor
  · rintro ⟨q, e1, e2, e3⟩
    by_cases hq : q < 128
    · rw [varint_small hq] at e3
      simp only [List.cons_append, List.nil_append, List.cons.injEq] at e3
      have : q = c := by omega
      subst this
      exact ⟨by rw [e1, Nat.mul_comm], e2, e3.2.symm⟩
    · rw [varint_big hq] at e3
      simp only [List.cons_append, List.cons.injEq] at e3
      omega
  · rintro ⟨e1, e2, e3⟩
    exact ⟨c, by rw [e1, Nat.mul_comm], e2, by rw [varint_small hc1, e3]; rfl⟩
theorem varint_ne (q : Nat) (r : List Int) : varint q ++ r ≠ [] := by
  by_cases h : q < 128
  · rw [varint_small h]; simp
  · rw [varint_big h]; simp
theorem some_out {b : List Int} {i acc : Nat} (h : Some7 b i acc) (hi : b.length ≤ i) (m : Nat) (r : List Int) : b ≠ varint m ++ r := by
  intro e
  obtain ⟨q, _, _, e3⟩ := (h.2 m r).1 e
  rw [List.drop_of_length_le hi] at e3
  exact varint_ne _ _ e3.symm
/-- The tenth byte may be a 1 alone. -/
theorem some_ten {b : List Int} {acc c : Nat} (h : Some7 b 9 acc) (hi : 9 < b.length) (hc : b.getD 9 0 = (c : Int)) (hc1 : 1 < c) (hc2 : c < 256) (m : Nat) (r : List Int) (hm : m < 2 ^ 64) : b ≠ varint m ++ r := by
  intro e
  by_cases hc3 : c < 128
  · have := ((some_end h hi hc hc3 m r).1 e).1
    have h9 : (128 : Nat) ^ 9 = 9223372036854775808 := by decide
    rw [h9] at this
    omega
  · obtain ⟨q, e1, e2, _⟩ := ((some_more h hi hc (by omega) hc2).2 m r).1 e
    have h9 : (128 : Nat) ^ (9 + 1) = 1180591620717411303424 := by decide
    rw [h9] at e1
    omega
/-- The program's words for a byte's lowest seven bits, and its highest. -/
theorem low7_all : ∀ x, x < 256 → (x &&& (255 - 128)) = x % 128 := by decide +kernel
theorem low7 {c : Nat} (h : c < 256) : Go.bits .andNot .u8 (c : Int) 128 = ((c % 128 : Nat) : Int) := by
  have := u8_andNot_nat c 128 h (by decide)
  rw [low7_all c h] at this
  exact this
theorem high_all : ∀ x, x < 256 → (x &&& 128) = if x < 128 then 0 else 128 := by decide +kernel
theorem high1 {c : Nat} (h : c < 256) : Go.bits .and .u8 (c : Int) 128 = if c < 128 then 0 else 128 := by
  have := (bits_nat .u8 8 (by decide) wraps_u8 c 128 h (by decide)).1
  rw [high_all c h] at this
  rw [show (128 : Int) = ((128 : Nat) : Int) from rfl, this]
  split <;> rfl
/-- What a byte adds. -/
theorem or_add {acc i c : Nat} (ha : acc < 2 ^ (7 * i)) (hc : c * 2 ^ (7 * i) < 2 ^ 64) (hi : i ≤ 9) : Go.bits .or .u64 (acc : Int) (shl .u64 (c : Int) ((7 * i : Nat) : Int)) = ((acc + c * 2 ^ (7 * i) : Nat) : Int) := by
  have e1 : min ((7 * i : Nat) : Int).toNat IntKind.u64.bits = 7 * i := by
    rw [Int.toNat_natCast]; exact Nat.min_eq_left (by show _ ≤ 64; omega)
  have hcc : (c : Int) * 2 ^ (7 * i) = ((c * 2 ^ (7 * i) : Nat) : Int) := by simp
  unfold shl
  rw [e1, hcc, w_u64 (Int.natCast_nonneg _) (by exact_mod_cast hc)]
  have h64 : acc < 2 ^ 64 := Nat.lt_of_lt_of_le ha (Nat.pow_le_pow_right (by decide) (by omega))
  have := (bits_nat .u64 64 (by decide) (fun n h0 h1 => w_u64 h0 h1) acc (c * 2 ^ (7 * i)) h64 hc).2
  rw [this, Nat.or_comm, Nat.mul_comm, ← Nat.two_pow_add_eq_or_of_lt ha, Nat.add_comm]
end Go.Proofs.Ythkpnnbjcendcaa.Pure
end
section
/- octs' taker, walked: New, Left, End, Num. -/
set_option linter.unusedVariables false
set_option linter.unusedSimpArgs false
open Go.RowKit Go.Proofs.Ythkpnnbjcendcaa.X Go.Proofs.Ythkpnnbjcendcaa.Pl Go.Proofs.Ythkpnnbjcendcaa.Sp Go.Proofs.Ythkpnnbjcendcaa.Pure Go.Proofs.YthkpnnbjcendcaaW.PrintWords Go.Proofs.YthkpnnbjcendcaaW.PrintLast Go.Proofs.YthkpnnbjcendcaaW.PrintMore
namespace Go.Proofs.Ythkpnnbjcendcaa.Sp
theorem Sep.join {base : Nat} {w w' : World} {rs qs : List Res} (h : Sep base w rs) (hb : Below w.heap.size w w') (hB : base ≤ w.heap.size) (hq : Sep w.heap.size w' qs) : Sep base w' (qs ++ rs) := by
  induction qs with
  | nil => exact h.below hb
  | cons q qs ih =>
    refine ⟨hq.1.lower hB, ?_, ih hq.2.2⟩
    intro x hx k hk hk'
    rcases List.mem_append.1 hx with hx | hx
    · exact hq.2.1 x hx k hk hk'
    · have := h.hi x hx k hk'
      have := hq.1.lo k hk
      omega
end Go.Proofs.Ythkpnnbjcendcaa.Sp
namespace Go.Proofs.Ythkpnnbjcendcaa.Sc
/-- A taker in memory. -/
abbrev otR (g : Nat) (v : Value) (bad : Bool) : Res := box g #[v, .bool bad] 125
theorem len64_calls (n : Nat) (w : World) (hn : n < 2 ^ 64) : Calls Try.prog 99 #[.int .u64 (n : Int)] w fun e w' => ∃ L : Nat, e = .returned (.int .i64 (L : Int)) ∧ Long n L ∧ L ≤ 64 ∧ Below w.heap.size w w' := by
  obtain ⟨L, h1, h2, h3⟩ := len_ev 0 n hn
  refine (bits_Len64.calls 1 _ _ w h1).mono ?_
  rintro e w' ⟨rfl, hd⟩
  exact ⟨L, rfl, h2, h3, hd.below⟩
set_option maxRecDepth 100000 in
theorem ofail_calls (g : Nat) (v : Value) (bad : Bool) (w0 w : World) (hB : Below w0.heap.size w0 w) (hO : Own w0.heap.size w (otR g v bad)) :
    Calls Try.prog 100 #[.pointer (some ⟨g, 0, none⟩)] w fun e w' => e = .returned (.tuple #[]) ∧ Turned w0 w w' (fun k => k = g) (fun _ => otR g (.slice none 0 0) true) := by
  have HB := Aside0.mk hB
  have HS := Aside0.mk (Sep.start hO)
  have hc0 := Sep.c20 HS.out
  have hc1 := Sep.c21 HS.out
  have hf0 := Sep.free HS.out 0
  have hf1 := Sep.free HS.out 1
  clear hB hO
  go_enter Try.func100, Try.ntmps100
  go_wp2
  first | go_end0 | ((try simp only [Exit.inBlock, Exit.then]); refine bodyPost_ret (results_none rfl _ _ _) rfl ?_)
  exact ⟨rfl, Turned.of_sep (mk := fun _ => otR g (.slice none 0 0) true) (F' := fun _ => True) ((HS.out.s20 _).s21 _) HB.out (below_set (below_set HB.out HS.out.ge) HS.out.ge)⟩
set_option maxRecDepth 100000 in
theorem left_calls (base g : Nat) (A : Option Addr) (n c : Nat) (bad : Bool) (w : World) (hO : Own base w (otR g (.slice A n c) bad)) :
    Calls Try.prog 75 #[.pointer (some ⟨g, 0, none⟩)] w fun e w' => e = .returned (.int .i64 (n : Int)) ∧ Below w.heap.size w w' := by
  have HB := Aside0.mk (Below.refl w.heap.size w)
  have hc0 := Sep.c20 (⟨hO, (fun q hq => by cases hq), trivial⟩ : Sep base w [otR g (.slice A n c) bad])
  clear hO
  go_enter Try.func75, Try.ntmps75
  go_wp2
  go_ret
  exact ⟨rfl, HB.out⟩
set_option maxRecDepth 100000 in
theorem end_calls (base g : Nat) (A : Option Addr) (n c : Nat) (bad : Bool) (w : World) (hO : Own base w (otR g (.slice A n c) bad)) :
    Calls Try.prog 76 #[.pointer (some ⟨g, 0, none⟩)] w fun e w' => e = .returned (.int .i64 (if bad = true ∨ 0 < n then 6 else 0)) ∧ Below w.heap.size w w' := by
  have HB := Aside0.mk (Below.refl w.heap.size w)
  have hc0 := Sep.c20 (⟨hO, (fun q hq => by cases hq), trivial⟩ : Sep base w [otR g (.slice A n c) bad])
  have hc1 := Sep.c21 (⟨hO, (fun q hq => by cases hq), trivial⟩ : Sep base w [otR g (.slice A n c) bad])
  clear hO
  cases bad
  · by_cases h : 0 < n
    · have h1 := eq_true h
      have h2 := decide_eq_true (show (0 : Int) < (n : Int) by omega)
      have h3 := decide_eq_true h
      have HE := Aside0.mk (show (if false = true ∨ 0 < n then (6 : Int) else 0) = 6 from if_pos (.inr h))
      clear h
      rw [HE.out]
      go_enter Try.func76, Try.ntmps76
      go_wp2
      go_ret
      exact ⟨rfl, HB.out⟩
    · have h1 := eq_false h
      have h2 := decide_eq_false (show ¬ (0 : Int) < (n : Int) by omega)
      have h3 := decide_eq_false h
      have HE := Aside0.mk (show (if false = true ∨ 0 < n then (6 : Int) else 0) = 0 from if_neg (by simp [h]))
      clear h
      rw [HE.out]
      go_enter Try.func76, Try.ntmps76
      go_wp2
      go_ret
      exact ⟨rfl, HB.out⟩
  · have HE := Aside0.mk (show (if true = true ∨ 0 < n then (6 : Int) else 0) = 6 from if_pos (.inl rfl))
    rw [HE.out]
    go_enter Try.func76, Try.ntmps76
    go_wp2
    go_ret
    exact ⟨rfl, HB.out⟩
set_option maxHeartbeats 8000000 in
set_option maxRecDepth 100000 in
theorem onew_calls (A0 : Option Addr) (c0 : Nat) (b : List Int) (w : World) (hr0 : Kd.C (Kd.int .u8) w A0 b.length b) (hc0 : b.length ≤ c0) (hl : b.length < 1000000) :
    Calls Try.prog 73 #[.slice A0 b.length c0] w fun e w' => ∃ g F A c, e = .returned (.pointer (some ⟨g, 0, none⟩)) ∧ Sep w.heap.size w' [otR g (.slice A b.length c) false, row F (Kd.int .u8) 5 w.heap.size (.slice A b.length c) b] ∧ Below w.heap.size w w' := by
  have HB := Aside0.mk (Below.refl w.heap.size w)
  have HS := Aside0.mk (Sep.nil w.heap.size w)
  have HR := Aside0.mk hr0
  have HL := Aside0.mk hl
  clear hr0 hl hc0
  go_enter Try.func73, Try.ntmps73
  go_wp2_with (first
    | ((with_reducible refine gate_dst (N := 3) rfl ?_); (try (refine gate_guard (by rfl) ?_; dsimp only)); (refine wp_lit (Kd.int .u8) (w0 := w) ?hg_ (N := 3) ?hd_ 5 (([] : List Int)) [] ?hr_ ?hp_ (by repeat (first | (with_reducible first | exact HS.out | apply sep_alloc | apply sep_drewN | apply sep_drew) | exact HS.out)) (by repeat (first | (with_reducible first | exact HB.out | apply below_alloc | apply pw_below_drewN | apply below_drew1) | exact HB.out)) (by simp) ?_; (case hd_ => rfl); (case hg_ => rfl); (case hr_ => first | (go_simp; done) | (go_simp; rfl)); (case hp_ => exact (Reps.none _ _))); intro v_ w_ F_ hs_ hb_; clear HB HS; have HB := Aside0.mk hb_; have HS := Aside0.mk hs_; clear hs_ hb_; obtain ⟨A_, c_, e_⟩ := Kd.R_slice (Sep.R HS.out); subst e_; (skip))
    | ((with_reducible refine gate_builtin (b := .append) (xs := #[.tmp 3, .tmp 4]) rfl ?_); (refine wp_append_row (Kd.int .u8) (w0 := w) rfl (.tmp 3) (.tmp 4) 24 5 (.int .u8 0) 1 rfl Try.underlying24 info5 rfl (by decide) (by omega) b _ _ _ HS.out (Kd.C_below HR.out HB.out) (fun _ _ h => h) (by repeat (first | (with_reducible first | exact HB.out | apply below_alloc | apply pw_below_drewN | apply below_drew1) | exact HB.out)) (by have := HL.out; simp; omega) rfl rfl ?_); (intro v_ w_ F_ hs_ hb_); (obtain ⟨O0, hy_⟩ : ∃ y_, y_ = ([] : List Int) ++ b := ⟨_, rfl⟩; rw [← hy_] at hs_; have HO0 := Aside0.mk hy_; clear hy_ HB HS; have HB := Aside0.mk hb_; have HS := Aside0.mk hs_; clear hs_ hb_; obtain ⟨A_, c_, e_⟩ := Kd.R_slice (Sep.R HS.out); subst e_); (have ho0 : O0 = b := (by rw [HO0.out]; rfl); clear HO0; subst ho0))
    | ((with_reducible refine gate_dst (N := 7) rfl ?_); (try (refine gate_guard (by rfl) ?_; dsimp only)); refine box_event ?hg (N := 7) ?hd (cs := #[.slice A_ O0.length c_, .bool false]) (t := 125) ?hr ?_; (case hd => rfl); (case hg => rfl); (case hr => first | (go_simp; done) | (go_simp; rfl)); intro g hg w5 hbox hb; have n0_ := Aside0.mk (below_step (by repeat (first | (with_reducible first | exact HB.out | apply below_alloc | apply pw_below_drewN | apply below_drew1) | exact HB.out)) hb); have n1_ := Aside0.mk (Sep.newbox (by repeat (first | (with_reducible first | exact HS.out | apply sep_alloc | apply sep_drewN | apply sep_drew) | exact HS.out)) hb (Nat.le_of_eq hg.symm) (below_size (by repeat (first | (with_reducible first | exact HB.out | apply below_alloc | apply pw_below_drewN | apply below_drew1) | exact HB.out))) hbox); clear HB HS; have HB := n0_; have HS := n1_; clear n0_ n1_ hb hbox hg))
  go_ret
  exact ⟨_, _, _, _, rfl, HS.out, HB.out⟩
end Go.Proofs.Ythkpnnbjcendcaa.Sc
end
section
/- octs' Num, walked. -/
set_option linter.unusedVariables false
set_option linter.unusedSimpArgs false
open Go.RowKit Go.Proofs.Ythkpnnbjcendcaa.X Go.Proofs.Ythkpnnbjcendcaa.Pl Go.Proofs.Ythkpnnbjcendcaa.Sp Go.Proofs.Ythkpnnbjcendcaa.Pure Go.Proofs.YthkpnnbjcendcaaW.PrintWords Go.Proofs.YthkpnnbjcendcaaW.PrintLast Go.Proofs.YthkpnnbjcendcaaW.PrintMore
namespace Go.Proofs.Ythkpnnbjcendcaa.Sc
/-- What Num says of bytes at A: the number at their head and what is behind it, or none. -/
def NumR (mk : Value → Bool → Res) (g : Nat) (A : Option Addr) (b : List Int) (bad : Bool) (w0 w : World) (e : Ending) (w' : World) : Prop :=
  (∃ (m : Nat) (r : List Int) (A' : Option Addr) (c' : Nat), m < 2 ^ 64 ∧ b = varint m ++ r ∧ e = .returned (.int .u64 (m : Int)) ∧ r.length ≤ c' ∧ (∀ w2, Kd.C (Kd.int .u8) w2 A b.length b → Kd.C (Kd.int .u8) w2 A' r.length r) ∧ Turned w0 w w' (fun k => k = g) (fun _ => mk (.slice A' r.length c') bad)) ∨
  ((∀ (m : Nat) (r : List Int), m < 2 ^ 64 → b ≠ varint m ++ r) ∧ e = .returned (.int .u64 0) ∧ Turned w0 w w' (fun k => k = g) (fun _ => mk (.slice none 0 0) true))
theorem pow7 (i : Nat) : (128 : Nat) ^ i = 2 ^ (7 * i) := by rw [Nat.pow_mul]
set_option maxHeartbeats 8000000 in
set_option maxRecDepth 100000 in
theorem num_calls (g : Nat) (A : Option Addr) (c : Nat) (b : List Int) (bad : Bool) (w0 w : World) (hB : Below w0.heap.size w0 w) (hO : Own w0.heap.size w (otR g (.slice A b.length c) bad)) (hr : Kd.C (Kd.int .u8) w A b.length b) (hc : b.length ≤ c) (hby : Byt b) (hl : b.length < 1000000) :
    Calls Try.prog 74 #[.pointer (some ⟨g, 0, none⟩)] w fun e w' => NumR (otR g) g A b bad w0 w e w' := by
  have HB0 := Aside0.mk hB
  have HB := Aside0.mk hB
  have HS := Aside0.mk (Sep.start hO)
  have HR := Aside0.mk hr
  have HC := Aside0.mk hc
  have HBY := Aside0.mk hby
  have HL := Aside0.mk hl
  have hc0 := Sep.c20 HS.out
  clear hB hO hr hc hby hl
  go_enter Try.func74, Try.ntmps74
  go_wp2
  have HW := Aside0.mk (Below.refl w.heap.size w)
  go_loopg [3, 4, 5, 13] 9 (fun kq v3 v4 v5 v13 w' => ∃ (i acc : Nat), v3 = .int .u64 (acc : Int) ∧ v13 = .int .i64 (i : Int) ∧ Aside0 (kq + i = 9 ∧ Some7 b i acc) ∧ Aside0 (Sep w0.heap.size w' [otR g (.slice A b.length c) bad, frameR w0.heap.size w (otR g (.slice A b.length c) bad).foot]) ∧ Aside0 (Below w0.heap.size w0 w') ∧ Aside0 (Below w.heap.size w w'))
  case atStart => exact ⟨0, 0, rfl, rfl, ⟨by omega, some_start b⟩, HS, HB, HW⟩
  case round =>
    clear HS HB HW hc0
    obtain ⟨i, acc, rfl, rfl, HI, HS, HB, HW⟩ := hrel
    have hc0 := Sep.c20 HS.out
    have hc1 := Sep.c21 HS.out
    have hf0 := Sep.free HS.out 0
    have hi9 : i ≤ 9 := by have := HI.out; omega
    by_cases hlt : i < b.length
    · have c1b : decide ((i : Int) < (b.length : Int)) = true := decide_eq_true (by omega)
      have c1n : decide (i < b.length) = true := decide_eq_true hlt
      have hnx : wrap64 ((i : Int) + 1) = ((i + 1 : Nat) : Int) := by rw [w64 (by omega) (by omega)]; simp
      have hby := HBY.out (b.getD i 0) (by rw [getD_lt _ _ _ hlt]; exact List.getElem_mem _)
      obtain ⟨x, hx⟩ : ∃ x : Nat, b.getD i 0 = (x : Int) := ⟨(b.getD i 0).toNat, by omega⟩
      have hx256 : x < 256 := by omega
      obtain ⟨ad, e1, hx0⟩ := Kd.at_int HR.out (i : Int) (by omega) (by omega)
      cases e1
      rw [Int.toNat_natCast, rd_get, hx] at hx0
      replace hx0 := (HW.out.cell (World.block_lt_of_cell? w _ hx0)).trans hx0
      have c4 := eq_true hlt
      have c5 := eq_true (show (i : Int) < (b.length : Int) by omega)
      have c6 := eq_true (show 0 ≤ (i : Int) by omega)
      have h10 : ((i : Int) == 10) = false := by rw [beq_eq_false_iff_ne]; omega
      have h10b : decide ((i : Int) = 10) = false := decide_eq_false (by omega)
      by_cases ht : i = 9 ∧ 1 < x
      · obtain ⟨hi9e, hx1⟩ := ht
        have h9a : ((i : Int) == 9) = true := by rw [hi9e]; rfl
        have h9 : decide ((1 : Int) < (x : Int)) = true := decide_eq_true (by omega)
        have h9b : decide (1 < x) = true := decide_eq_true hx1
        have HNO := Aside0.mk (fun (m : Nat) (r : List Int) (hm : m < 2 ^ 64) => some_ten (acc := acc) (c := x) (by have := HI.out.2; rwa [hi9e] at this) (by omega) (by rw [← hi9e]; exact hx) hx1 hx256 m r hm)
        clear hlt hnx hby hx hx256 hi9 hx1 hi9e
        go_wp2_with (first
          | ((with_reducible refine gate_dst (N := 61) rfl ?_); (try (refine gate_guard (by rfl) ?_; dsimp only)); refine goesL_ (some 61) rfl rfl Try.func100 (by kernel_rfl) rfl #[.pointer (some ⟨g, 0, none⟩)] rfl (by (try simp only [List.map_toArray, List.map_cons, List.map_nil]); first | done | rfl) ?_; (with_reducible refine (ofail_calls g _ bad w0 _ HB.out HS.out.own).mono ?_); rintro e w8 ⟨rfl, ht⟩; refine ⟨_, rfl, ?_⟩; obtain ⟨F_, hs_⟩ := Turned.sep ht (HS.out) rfl; have n0_ := Aside0.mk (Turned.below ht); clear HB HS ht; have HB := n0_; have HS := Aside0.mk hs_; clear n0_ hs_))
        go_ret
        exact .inr ⟨HNO.out, rfl, Turned.of_sep (mk := fun _ => otR g (.slice none 0 0) true) (F' := fun _ => True) HS.out HB0.out HB.out⟩
      · have h9 : ((i : Int) == 9) = true → decide ((1 : Int) < (x : Int)) = false := fun h => decide_eq_false (by have := beq_iff_eq.1 h; omega)
        have hlow := low7 hx256
        have hand := high1 hx256
        obtain ⟨s, hs⟩ : ∃ s, s = 7 * i := ⟨_, rfl⟩
        have hsw : wrap64 (7 * (i : Int)) = (s : Int) := by rw [w64 (by omega) (by omega)]; omega
        obtain ⟨y, hy⟩ : ∃ y, y = x % 128 := ⟨_, rfl⟩
        rw [← hy] at hlow
        have hyw : IntKind.u64.wrap (y : Int) = (y : Int) := w_u64 (by omega) (by omega)
        have hai : acc < 2 ^ (7 * i) := by have := HI.out.2.1; rwa [pow7] at this
        have hbd : i < 9 ∨ i = 9 ∧ x ≤ 1 := by omega
        have hfit : acc + y * 2 ^ (7 * i) < 2 ^ 64 := by
          rcases hbd with h | ⟨rfl, h⟩
          · have h1 : y * 2 ^ (7 * i) ≤ 127 * 2 ^ (7 * i) := Nat.mul_le_mul_right _ (by omega)
            have h2 : (2 : Nat) ^ (7 * i) ≤ 2 ^ 56 := Nat.pow_le_pow_right (by decide) (by omega)
            omega
          · have h1 : y * 2 ^ (7 * 9) ≤ 1 * 2 ^ (7 * 9) := Nat.mul_le_mul_right _ (by omega)
            omega
        have hor := or_add (c := y) hai (by omega) hi9
        obtain ⟨acc', hacc⟩ : ∃ a, a = acc + y * 2 ^ (7 * i) := ⟨_, rfl⟩
        rw [← hacc] at hor hfit
        rw [← hs] at hor
        have hor2 : Go.bits .or .u64 (acc : Int) (IntKind.u64.wrap ((y : Int) * 2 ^ min s 64)) = (acc' : Int) := by
          unfold shl at hor
          rw [Int.toNat_natCast] at hor
          exact hor
        by_cases hx128 : x < 128
        · rw [if_pos hx128] at hand
          obtain ⟨i1, hi1⟩ : ∃ j, j = i + 1 := ⟨_, rfl⟩
          rw [← hi1] at hnx
          have HCN := Aside0.mk (show ∀ L, Long acc' L → (i1 = max 1 ((L + 6) / 7) ↔ i = 0 ∨ 0 < x) from fun L hL => by
            have hb2 : acc' < 2 ^ (7 * (i + 1)) := by
              have h1 : y * 2 ^ (7 * i) ≤ 127 * 2 ^ (7 * i) := Nat.mul_le_mul_right _ (by omega)
              rw [Nat.mul_add, Nat.pow_add, hacc]
              omega
            rw [hi1, long_groups hL hb2, hacc]
            have hyx : y = x := by omega
            constructor
            · rintro (h | h)
              · exact .inl h
              · refine .inr (Nat.pos_of_ne_zero ?_)
                intro h0
                rw [hyx, h0, Nat.zero_mul] at h
                omega
            · rintro (h | h)
              · exact .inl h
              · refine .inr ?_
                have : 1 * 2 ^ (7 * i) ≤ y * 2 ^ (7 * i) := Nat.mul_le_mul_right _ (by omega)
                omega)
          have HFT := Aside0.mk hfit
          have h9c : (((i : Int) == 9) = true ∧ decide ((1 : Int) < (x : Int)) = false) ∨ ((i : Int) == 9) = false := by
            rcases hbd with h | ⟨h, h1⟩
            · exact .inr (by rw [beq_eq_false_iff_ne]; omega)
            · exact .inl ⟨by rw [h]; rfl, decide_eq_false (by omega)⟩
          by_cases hcan : i = 0 ∨ 0 < x
          · have HNE := Aside0.mk (show ∀ L : Nat, Long acc' L → ((i1 : Int) != if (1 : Int) < ((L : Int) + 7 - 1) / 7 then ((L : Int) + 7 - 1) / 7 else 1) = false from fun L hL => by
              have := (HCN.out L hL).2 hcan
              rw [bne_eq_false_iff_eq]
              split <;> omega)
            have HFC := Aside0.mk (hcan)
            have HXM := Aside0.mk hx
            have HLT := Aside0.mk hlt
            have HI1 := Aside0.mk hi1
            have HX128 := Aside0.mk hx128
            have HYX := Aside0.mk (show y = x by omega)
            have HEQ := Aside0.mk ((some_end HI.out.2 hlt hx hx128 acc' (b.drop i1)).2 ⟨by rw [hacc, ← pow7, show y = x by omega], hcan, by rw [hi1]⟩)
            obtain ⟨r, hr⟩ : ∃ r, r = b.drop i1 := ⟨_, rfl⟩
            have HRL := Aside0.mk (show b.length - i1 = r.length by rw [hr, List.length_drop])
            obtain ⟨i05, hi05, _, hsz5, _⟩ := info_parts info5
            have hcut := cut_from (P := Try.prog) 24 5 .i64 Try.underlying24 hi05 1 hsz5 (some ad) b.length c (i1 : Int) (by omega) (by omega)
            obtain ⟨A4, hA4⟩ : ∃ A, A = (if c = i1 then (some ad : Option Addr) else (some ad).map (fun x => x.add (i1 * 1))) := ⟨_, rfl⟩
            have HCD := Aside0.mk (show ∀ w2, Kd.C (Kd.int .u8) w2 (some ad) b.length b → Kd.C (Kd.int .u8) w2 A4 r.length r from fun w2 h2 => by rw [hA4, hr]; exact Kd.C_drop (m := i1) h2 (by omega) HC.out)
            obtain ⟨c4, hc4⟩ : ∃ x, x = c - i1 := ⟨_, rfl⟩
            have HC4 := Aside0.mk (show r.length ≤ c4 by have := HC.out; rw [hc4, ← HRL.out]; omega)
            rw [Int.toNat_natCast, ← hA4, HRL.out, ← hc4] at hcut
            have k1 := eq_true (show i1 ≤ b.length by omega)
            have k1i := eq_true (show (i1 : Int) ≤ (b.length : Int) by omega)
            have k2i := eq_true (show 0 ≤ (i1 : Int) by omega)
            rw [← hr] at HEQ
            clear hlt hby hx hx256 hi9 ht hfit hai hbd hx128 hacc hs hy hi1 hcan h9 hi05 hsz5 hA4 hc4 hr
            rcases h9c with ⟨h9a, h9b⟩ | h9a
            all_goals (
              go_wp2_with (first
                | ((with_reducible refine gate_dst (N := 42) rfl ?_); (try (refine gate_guard (by rfl) ?_; dsimp only)); refine goesL_ (some 42) rfl rfl Try.func99 (by kernel_rfl) rfl #[.int .u64 (acc' : Int)] rfl (by (try simp only [List.map_toArray, List.map_cons, List.map_nil]); first | done | rfl) ?_; (with_reducible refine (len64_calls acc' _ HFT.out).mono ?_); rintro e w8 ⟨L, rfl, hL1, hL2, hb⟩; refine ⟨_, rfl, ?_⟩; have n0_ := Aside0.mk (below_step (by repeat (first | (with_reducible first | exact HB.out | apply below_alloc | apply pw_below_drewN | apply below_drew1) | exact HB.out)) hb); have n1_ := Aside0.mk (Sep.below (by repeat (first | (with_reducible first | exact HS.out | apply sep_alloc | apply sep_drewN | apply sep_drew) | exact HS.out)) hb); clear HB HS; have HB := n0_; have HS := n1_; clear n0_ n1_ hb; have hne := HNE.out L hL1; clear hL1 hc0 hc1 hf0; have hc0 := Sep.c20 HS.out; have hc1 := Sep.c21 HS.out; have hf0 := Sep.free HS.out 0))
              all_goals go_ret
              all_goals exact .inl ⟨acc', r, A4, c4, HFT.out, HEQ.out, rfl, HC4.out, HCD.out, Turned.of_sep (mk := fun _ => otR g (.slice A4 r.length c4) bad) (F' := fun _ => True) (HS.out.s20 _) HB0.out (below_set HB.out HS.out.ge)⟩)
          · have HNE := Aside0.mk (show ∀ L : Nat, Long acc' L → ((i1 : Int) != if (1 : Int) < ((L : Int) + 7 - 1) / 7 then ((L : Int) + 7 - 1) / 7 else 1) = true from fun L hL => by
              have := mt (HCN.out L hL).1 hcan
              rw [bne_iff_ne]
              split <;> omega)
            have HNO := Aside0.mk (fun (m : Nat) (r : List Int) (hm : m < 2 ^ 64) (e : b = varint m ++ r) => hcan ((some_end HI.out.2 hlt hx hx128 m r).1 e).2.1)
            clear hlt hby hx hx256 hi9 ht hfit hai hbd hx128 hacc hs hy hi1 hcan h9
            rcases h9c with ⟨h9a, h9b⟩ | h9a
            all_goals (
              go_wp2_with (first
                | ((with_reducible refine gate_dst (N := 42) rfl ?_); (try (refine gate_guard (by rfl) ?_; dsimp only)); refine goesL_ (some 42) rfl rfl Try.func99 (by kernel_rfl) rfl #[.int .u64 (acc' : Int)] rfl (by (try simp only [List.map_toArray, List.map_cons, List.map_nil]); first | done | rfl) ?_; (with_reducible refine (len64_calls acc' _ HFT.out).mono ?_); rintro e w8 ⟨L, rfl, hL1, hL2, hb⟩; refine ⟨_, rfl, ?_⟩; have n0_ := Aside0.mk (below_step (by repeat (first | (with_reducible first | exact HB.out | apply below_alloc | apply pw_below_drewN | apply below_drew1) | exact HB.out)) hb); have n1_ := Aside0.mk (Sep.below (by repeat (first | (with_reducible first | exact HS.out | apply sep_alloc | apply sep_drewN | apply sep_drew) | exact HS.out)) hb); clear HB HS; have HB := n0_; have HS := n1_; clear n0_ n1_ hb; have hne := HNE.out L hL1; clear hL1 hc0 hc1 hf0; have hc0 := Sep.c20 HS.out; have hc1 := Sep.c21 HS.out; have hf0 := Sep.free HS.out 0)
                | ((with_reducible refine gate_dst (N := 61) rfl ?_); (try (refine gate_guard (by rfl) ?_; dsimp only)); refine goesL_ (some 61) rfl rfl Try.func100 (by kernel_rfl) rfl #[.pointer (some ⟨g, 0, none⟩)] rfl (by (try simp only [List.map_toArray, List.map_cons, List.map_nil]); first | done | rfl) ?_; (with_reducible refine (ofail_calls g _ bad w0 _ HB.out HS.out.own).mono ?_); rintro e w9 ⟨rfl, ht⟩; refine ⟨_, rfl, ?_⟩; obtain ⟨F_, hs_⟩ := Turned.sep ht (HS.out) rfl; have n0_ := Aside0.mk (Turned.below ht); clear HB HS ht; have HB := n0_; have HS := Aside0.mk hs_; clear n0_ hs_))
              all_goals go_ret
              all_goals exact .inr ⟨HNO.out, rfl, Turned.of_sep (mk := fun _ => otR g (.slice none 0 0) true) (F' := fun _ => True) HS.out HB0.out HB.out⟩)
        · rw [if_neg hx128] at hand
          have hi8 : i < 9 := by omega
          have h9b : ((i : Int) == 9) = false := by rw [beq_eq_false_iff_ne]; omega
          obtain ⟨k1, rfl⟩ : ∃ q, gk = q + 1 := ⟨gk - 1, by have := HI.out; omega⟩
          have HX := Aside0.mk hnx
          have HN := Aside0.mk (show Some7 b (i + 1) acc' by
            rw [hacc, hy, ← pow7]
            exact some_more HI.out.2 hlt hx (by omega) hx256)
          clear hlt hnx hby hx hx256 hi9 ht hfit hai hbd hx128 hacc hs hy h9 hi8
          go_wp2
          go_roundg k1
          case measure => omega
          case rel => exact ⟨i + 1, acc', rfl, (by first | rfl | rw [HX.out]), ⟨by have := HI.out; omega, HN.out⟩, HS, HB, HW⟩
    · have c1b : decide ((i : Int) < (b.length : Int)) = false := decide_eq_false (by omega)
      have c1n : decide (i < b.length) = false := decide_eq_false hlt
      have HNO := Aside0.mk (fun (m : Nat) (r : List Int) (hm : m < 2 ^ 64) => some_out HI.out.2 (by omega) m r)
      clear hlt hi9
      go_wp2_with (first
        | ((with_reducible refine gate_dst (N := 61) rfl ?_); (try (refine gate_guard (by rfl) ?_; dsimp only)); refine goesL_ (some 61) rfl rfl Try.func100 (by kernel_rfl) rfl #[.pointer (some ⟨g, 0, none⟩)] rfl (by (try simp only [List.map_toArray, List.map_cons, List.map_nil]); first | done | rfl) ?_; (with_reducible refine (ofail_calls g _ bad w0 _ HB.out HS.out.own).mono ?_); rintro e w8 ⟨rfl, ht⟩; refine ⟨_, rfl, ?_⟩; obtain ⟨F_, hs_⟩ := Turned.sep ht (HS.out) rfl; have n0_ := Aside0.mk (Turned.below ht); clear HB HS ht; have HB := n0_; have HS := Aside0.mk hs_; clear n0_ hs_))
      go_ret
      exact .inr ⟨HNO.out, rfl, Turned.of_sep (mk := fun _ => otR g (.slice none 0 0) true) (F' := fun _ => True) HS.out HB0.out HB.out⟩
end Go.Proofs.Ythkpnnbjcendcaa.Sc
end
section
/- steps' taker, walked. -/
set_option linter.unusedVariables false
set_option linter.unusedSimpArgs false
open Go.RowKit Go.Proofs.Ythkpnnbjcendcaa.X Go.Proofs.Ythkpnnbjcendcaa.Pl Go.Proofs.Ythkpnnbjcendcaa.Sp Go.Proofs.Ythkpnnbjcendcaa.Pure Go.Proofs.YthkpnnbjcendcaaW.PrintWords Go.Proofs.YthkpnnbjcendcaaW.PrintLast Go.Proofs.YthkpnnbjcendcaaW.PrintMore
namespace Go.Proofs.Ythkpnnbjcendcaa.Sc
/-- A taker of bits in memory. -/
abbrev tkR (g : Nat) (v : Value) (p : Nat) (bad : Bool) : Res := box g #[v, .int .i64 (p : Int), .bool bad] 101
theorem atR_ok {b : List Int} {p wd : Nat} (hw : wd ≤ 64) (h : p + wd ≤ 8 * b.length) : atR b (p : Int) (wd : Int) = ((val b p wd : Int), 0) := by
  unfold atR
  rw [if_neg (by omega), if_neg (by omega), Int.toNat_natCast, Int.toNat_natCast]
theorem atR_bad {b : List Int} {p wd : Nat} (hw : wd ≤ 64) (h : 8 * b.length < p + wd) : atR b (p : Int) (wd : Int) = (0, 2) := by
  unfold atR
  rw [if_neg (by omega), if_pos (by omega)]
set_option maxHeartbeats 8000000 in
set_option maxRecDepth 100000 in
theorem tktake_calls (g : Nat) (A : Option Addr) (c : Nat) (b : List Int) (p wd : Nat) (bad : Bool) (r1 r2 : Int) (bad' : Bool) (w0 w : World) (hB : Below w0.heap.size w0 w) (hO : Own w0.heap.size w (tkR g (.slice A b.length c) p bad)) (hr : Kd.C (Kd.int .u8) w0 A b.length b) (hc : b.length ≤ c) (hby : Byt b) (hl : b.length < 1000000)
    (hw : wd ≤ 64) (hp : p < 1000000000) (ha : atR b (p : Int) (wd : Int) = (r1, r2)) (hb' : bad' = (bad || (r2 != 0))) :
    Calls Try.prog 101 #[.pointer (some ⟨g, 0, none⟩), .int .i64 (wd : Int)] w fun e w' => e = .returned (.int .u64 r1) ∧ Turned w0 w w' (fun k => k = g) (fun _ => tkR g (.slice A b.length c) (p + wd) bad') := by
  have HB0 := Aside0.mk hB
  have HB := Aside0.mk hB
  have HS := Aside0.mk (Sep.start hO)
  have HR := Aside0.mk hr
  have HC := Aside0.mk hc
  have HBY := Aside0.mk hby
  have HL := Aside0.mk hl
  have HA := Aside0.mk ha
  have HW := Aside0.mk hw
  obtain ⟨q, hq⟩ : ∃ q, q = p + wd := ⟨_, rfl⟩
  have hqw : wrap64 ((p : Int) + (wd : Int)) = (q : Int) := by rw [w64 (by omega) (by omega)]; omega
  rw [← hq]
  have hc1 := Sep.c31 HS.out
  have hc2 := Sep.c32 HS.out
  have hf1 := Sep.free HS.out 1
  have hf2 := Sep.free HS.out 2
  clear hB hO hr hc hby hl hw hp ha hq
  go_enter Try.func101, Try.ntmps101
  go_wp2
  clear hc1 hc2 hf1 hf2
  refine start_ (n := 15) (S := fun w' => w'.cell? ⟨g, 0, none⟩ = some (.slice A b.length c) ∧ w'.cell? ⟨g, 1, none⟩ = some (.int .i64 (p : Int))) (ds := []) #[false, false, false, false, false, false, false, false, false, false, false, false, false, false, false] (by kernel_rfl) rfl rfl ⟨Sep.c30 (sep_drew HS.out), Sep.c31 (sep_drew HS.out)⟩ (fun hHeld => ?_)
  have n0_ := Aside0.mk (below_drew HB.out)
  have n1_ := Aside0.mk (sep_drew HS.out)
  clear HB HS
  have HB := n0_
  have HS := n1_
  clear n0_ n1_
  generalize (World.drew w) = wd_ at HB HS hHeld ⊢
  refine pure_ (i := 0) (N := some 8) (v := ?_) (a' := ?_) #[true, false, false, false, false, false, false, false, false, false, false, false, false, false, false] rfl rfl (by kernel_rfl) (fun _ _ _ h => h) (Or.inl ⟨by rfl, ?_⟩) ?_ ?_
  rotate_left
  · intro w'
    go_simp
    with_reducible rfl
  rotate_left
  · simp only [Act.put, List.setIfInBounds_toArray, List.set_cons_zero, List.set_cons_succ, i64_w, i32_w]
    rfl
  refine pure_ (i := 1) (N := some 9) (v := ?_) (a' := ?_) #[true, true, false, false, false, false, false, false, false, false, false, false, false, false, false] rfl rfl (by kernel_rfl) (fun _ _ _ h => h) (Or.inl ⟨by rfl, ?_⟩) ?_ ?_
  rotate_left
  · intro w'
    go_simp
    with_reducible rfl
  rotate_left
  · simp only [Act.put, List.setIfInBounds_toArray, List.set_cons_zero, List.set_cons_succ, i64_w, i32_w]
    rfl
  refine pure_ (i := 2) (N := some 10) (v := ?_) (a' := ?_) #[true, true, true, false, false, false, false, false, false, false, false, false, false, false, false] rfl rfl (by kernel_rfl) (fun _ _ _ h => h) (Or.inl ⟨by rfl, ?_⟩) ?_ ?_
  rotate_left
  · intro w'
    go_simp
    with_reducible rfl
  rotate_left
  · simp only [Act.put, List.setIfInBounds_toArray, List.set_cons_zero, List.set_cons_succ, i64_w, i32_w]
    rfl
  refine pure_ (i := 4) (N := some 12) (v := ?_) (a' := ?_) #[true, true, true, false, true, false, false, false, false, false, false, false, false, false, false] rfl rfl (by kernel_rfl) (fun _ _ _ h => h) (Or.inl ⟨by rfl, ?_⟩) ?_ ?_
  rotate_left
  · intro w'
    go_simp
    with_reducible rfl
  rotate_left
  · simp only [Act.put, List.setIfInBounds_toArray, List.set_cons_zero, List.set_cons_succ, i64_w, i32_w]
    rfl
  refine pure_ (i := 5) (N := some 13) (v := ?_) (a' := ?_) #[true, true, true, false, true, true, false, false, false, false, false, false, false, false, false] rfl rfl (by kernel_rfl) (fun _ _ _ h => h) (Or.inl ⟨by rfl, ?_⟩) ?_ ?_
  rotate_left
  · intro w'
    go_simp
    with_reducible rfl
  rotate_left
  · simp only [Act.put, List.setIfInBounds_toArray, List.set_cons_zero, List.set_cons_succ, i64_w, i32_w]
    rfl
  refine pure_ (i := 6) (N := some 14) (v := ?_) (a' := ?_) #[true, true, true, false, true, true, true, false, false, false, false, false, false, false, false] rfl rfl (by kernel_rfl) (fun _ _ _ h => h) (Or.inl ⟨by rfl, ?_⟩) ?_ ?_
  rotate_left
  · intro w'
    go_simp
    with_reducible rfl
  rotate_left
  · simp only [Act.put, List.setIfInBounds_toArray, List.set_cons_zero, List.set_cons_succ, i64_w, i32_w]
    rfl
  refine pure_ (i := 8) (N := some 16) (v := ?_) (a' := ?_) #[true, true, true, false, true, true, true, false, true, false, false, false, false, false, false] rfl rfl (by kernel_rfl) (fun _ _ _ h => h) (Or.inl ⟨by rfl, ?_⟩) ?_ ?_
  rotate_left
  · intro w'
    go_simp
    with_reducible rfl
  rotate_left
  · simp only [Act.put, List.setIfInBounds_toArray, List.set_cons_zero, List.set_cons_succ, i64_w, i32_w]
    rfl
  refine take_ (i := 3) (N := some 11) (v := ?_) (a' := ?_) #[true, true, true, true, true, true, true, false, true, false, false, false, false, false, false] rfl rfl (by kernel_rfl) (fun _ _ _ h => h) (Or.inl ⟨by rfl, ?_⟩) hHeld ?_ ?_
  rotate_left
  · rintro w' ⟨s0, s1⟩
    go_simp
    with_reducible rfl
  rotate_left
  · simp only [Act.put, List.setIfInBounds_toArray, List.set_cons_zero, List.set_cons_succ, i64_w, i32_w]
    rfl
  refine take_ (i := 7) (N := some 15) (v := ?_) (a' := ?_) #[true, true, true, true, true, true, true, true, true, false, false, false, false, false, false] rfl rfl (by kernel_rfl) (fun _ _ _ h => h) (Or.inl ⟨by rfl, ?_⟩) hHeld ?_ ?_
  rotate_left
  · rintro w' ⟨s0, s1⟩
    go_simp
    with_reducible rfl
  rotate_left
  · simp only [Act.put, List.setIfInBounds_toArray, List.set_cons_zero, List.set_cons_succ, i64_w, i32_w]
    rfl
  refine one_ (i := 9) (N := some 17) #[true, true, true, true, true, true, true, true, true, true, false, false, false, false, false] rfl rfl (by kernel_rfl) (by decide) (fun K hK => ?_)
  refine goes_ Try.func27 (by kernel_rfl) rfl #[.slice A b.length c, .int .i64 (p : Int), .int .i64 (wd : Int)] (by rfl) rfl rfl (by first | (simp only [List.map_toArray, List.map_cons, List.map_nil]; done) | (simp only [List.map_toArray, List.map_cons, List.map_nil]; rfl) | rfl) ?_; with_reducible refine (at_calls_eq A c b (p : Int) (wd : Int) r1 r2 _ (Kd.C_below HR.out HB.out) HC.out HBY.out HL.out (by have := HW.out; omega) HA.out).mono ?_; rintro e w8 ⟨rfl, hb⟩; refine ⟨_, rfl, ?_⟩
  have n0_ := Aside0.mk (below_step (by repeat (first | (with_reducible first | exact HB.out | apply below_alloc | apply pw_below_drewN | apply below_drew1) | exact HB.out)) hb); have n1_ := Aside0.mk (Sep.below (by repeat (first | (with_reducible first | exact HS.out | apply sep_alloc | apply sep_drewN | apply sep_drew) | exact HS.out)) hb); clear HB HS; have HB := n0_; have HS := n1_; clear n0_ n1_ hb
  refine hK.out _ _ ⟨Sep.c30 HS.out, Sep.c31 HS.out⟩ (fun hHeld => ?_)
  clear hK K
  refine norm_ (a' := ?_) ?_ ?_
  rotate_left
  · show Act.put _ (some 17) _ = _
    simp only [Act.put, List.setIfInBounds_toArray, List.set_cons_zero, List.set_cons_succ, i64_w, i32_w]
    rfl
  refine pure_ (i := 10) (N := some 7) (v := ?_) (a' := ?_) #[true, true, true, true, true, true, true, true, true, true, true, false, false, false, false] rfl rfl (by kernel_rfl) (fun _ _ _ h => h) (Or.inl ⟨by rfl, ?_⟩) ?_ ?_
  rotate_left
  · intro w'
    go_simp
    with_reducible rfl
  rotate_left
  · simp only [Act.put, List.setIfInBounds_toArray, List.set_cons_zero, List.set_cons_succ, i64_w, i32_w]
    rfl
  refine pure_ (i := 11) (N := some 18) (v := ?_) (a' := ?_) #[true, true, true, true, true, true, true, true, true, true, true, true, false, false, false] rfl rfl (by kernel_rfl) (fun _ _ _ h => h) (Or.inl ⟨by rfl, ?_⟩) ?_ ?_
  rotate_left
  · intro w'
    go_simp
    with_reducible rfl
  rotate_left
  · simp only [Act.put, List.setIfInBounds_toArray, List.set_cons_zero, List.set_cons_succ, i64_w, i32_w]
    rfl
  refine pure_ (i := 12) (N := some 19) (v := ?_) (a' := ?_) #[true, true, true, true, true, true, true, true, true, true, true, true, true, false, false] rfl rfl (by kernel_rfl) (fun _ _ _ h => h) (Or.inl ⟨by rfl, ?_⟩) ?_ ?_
  rotate_left
  · intro w'
    go_simp
    with_reducible rfl
  rotate_left
  · simp only [Act.put, List.setIfInBounds_toArray, List.set_cons_zero, List.set_cons_succ, i64_w, i32_w]
    rfl
  refine pure_ (i := 13) (N := some 5) (v := ?_) (a' := ?_) #[true, true, true, true, true, true, true, true, true, true, true, true, true, true, false] rfl rfl (by kernel_rfl) (fun _ _ _ h => h) (Or.inl ⟨by rfl, ?_⟩) ?_ ?_
  rotate_left
  · intro w'
    go_simp
    with_reducible rfl
  rotate_left
  · simp only [Act.put, List.setIfInBounds_toArray, List.set_cons_zero, List.set_cons_succ, i64_w, i32_w]
    rfl
  refine pure_ (i := 14) (N := some 6) (v := ?_) (a' := ?_) #[true, true, true, true, true, true, true, true, true, true, true, true, true, true, true] rfl rfl (by kernel_rfl) (fun _ _ _ h => h) (Or.inl ⟨by rfl, ?_⟩) ?_ ?_
  rotate_left
  · intro w'
    go_simp
    with_reducible rfl
  rotate_left
  · simp only [Act.put, List.setIfInBounds_toArray, List.set_cons_zero, List.set_cons_succ, i64_w, i32_w]
    rfl
  refine done_ (by kernel_rfl) ?_
  have hc1 := Sep.c31 HS.out
  have hc2 := Sep.c32 HS.out
  have hf1 := Sep.free HS.out 1
  have hf2 := Sep.free HS.out 2
  cases bad
  · simp only [Bool.false_or] at hb'
    subst hb'
    go_wp2
    go_ret
    exact ⟨rfl, Turned.of_sep (mk := fun _ => tkR g (.slice A b.length c) q (r2 != 0)) (F' := fun _ => True) ((HS.out.s32 _).s31 _) HB0.out (below_set (below_set HB.out HS.out.ge) HS.out.ge)⟩
  · simp only [Bool.true_or] at hb'
    subst hb'
    go_wp2
    go_ret
    exact ⟨rfl, Turned.of_sep (mk := fun _ => tkR g (.slice A b.length c) q true) (F' := fun _ => True) ((HS.out.s32 _).s31 _) HB0.out (below_set (below_set HB.out HS.out.ge) HS.out.ge)⟩
end Go.Proofs.Ythkpnnbjcendcaa.Sc
end
section
/- Open, the program's and the reference's; how many 1s stand at a place. -/
set_option linter.unusedVariables false
open Go.RowKit Go.Proofs.Ythkpnnbjcendcaa.X Go.Proofs.Ythkpnnbjcendcaa.Pl Go.Proofs.YthkpnnbjcendcaaW.PrintWords Go.Proofs.YthkpnnbjcendcaaW.PrintLast Go.Proofs.YthkpnnbjcendcaaW.PrintMore
namespace Go.Proofs.Ythkpnnbjcendcaa.Pure
theorem xor_i64 (a : Nat) (b : Int) : Go.bits .xor .i64 (a : Int) b = wrap64 ((BitVec.ofNat 64 a ^^^ BitVec.ofInt 64 b).toNat : Int) := by
  show IntKind.i64.wrap ((BitVec.ofInt 64 (a : Int) ^^^ BitVec.ofInt 64 b).toNat : Int) = _
  rw [BitVec.ofInt_natCast]
  exact i64_w _
theorem open_f {u : Nat} (h : u < 2 ^ 64) : octs_Open.f (u : Int) = some (openN u) := by
  have hand : Go.bits .and .u64 (u : Int) 1 = ((u % 2 : Nat) : Int) := by
    have := (bits_nat .u64 64 (by decide) (fun n h0 h1 => w_u64 h0 h1) u 1 h (by decide)).1
    rw [show (1 : Int) = ((1 : Nat) : Int) from rfl, this, Nat.and_one_is_mod]
  unfold octs_Open.f openN
  rw [hand, show ((u : Nat) : Int) / 2 = ((u / 2 : Nat) : Int) by omega, w64 (x := ((u / 2 : Nat) : Int)) (by omega) (by omega), xor_i64]
  rcases Nat.mod_two_eq_zero_or_one u with h0 | h1
  · rw [h0, if_neg (by decide), show wrap64 (-(wrap64 ((0 : Nat) : Int))) = 0 by unfold wrap64; decide, show BitVec.ofInt 64 0 = 0#64 by decide, BitVec.xor_zero, BitVec.toNat_ofNat, Nat.mod_eq_of_lt (by omega), w64 (by omega) (by omega)]
  · rw [h1, if_pos rfl, show wrap64 (-(wrap64 ((1 : Nat) : Int))) = -1 by unfold wrap64; decide, show BitVec.ofInt 64 (-1) = BitVec.allOnes 64 by decide, BitVec.xor_allOnes, BitVec.toNat_not, BitVec.toNat_ofNat, Nat.mod_eq_of_lt (by omega)]
    congr 1
    unfold wrap64
    omega
theorem ones_next {b : List Int} {p j : Nat} (h : j ≤ onesAt b p) : j < onesAt b p ↔ j < 4 ∧ p + j + 1 ≤ 8 * b.length ∧ bt b (p + j) = 1 := by
  unfold onesAt at h ⊢
  by_cases c0 : p + 1 ≤ 8 * b.length ∧ bt b p = 1
  · rw [if_neg (by simpa using c0)] at h ⊢
    by_cases c1 : p + 2 ≤ 8 * b.length ∧ bt b (p + 1) = 1
    · rw [if_neg (by simpa using c1)] at h ⊢
      by_cases c2 : p + 3 ≤ 8 * b.length ∧ bt b (p + 2) = 1
      · rw [if_neg (by simpa using c2)] at h ⊢
        by_cases c3 : p + 4 ≤ 8 * b.length ∧ bt b (p + 3) = 1
        · rw [if_neg (by simpa using c3)] at h ⊢
          rcases (by omega : j = 0 ∨ j = 1 ∨ j = 2 ∨ j = 3 ∨ j = 4) with rfl | rfl | rfl | rfl | rfl <;> simp_all
        · rw [if_pos c3] at h ⊢
          rcases (by omega : j = 0 ∨ j = 1 ∨ j = 2 ∨ j = 3) with rfl | rfl | rfl | rfl <;> simp_all [Nat.add_assoc]
      · rw [if_pos c2] at h ⊢
        rcases (by omega : j = 0 ∨ j = 1 ∨ j = 2) with rfl | rfl | rfl <;> simp_all [Nat.add_assoc]
    · rw [if_pos c1] at h ⊢
      rcases (by omega : j = 0 ∨ j = 1) with rfl | rfl <;> simp_all [Nat.add_assoc]
  · rw [if_pos c0] at h ⊢
    obtain rfl : j = 0 := by omega
    simpa using c0
end Go.Proofs.Ythkpnnbjcendcaa.Pure
end
