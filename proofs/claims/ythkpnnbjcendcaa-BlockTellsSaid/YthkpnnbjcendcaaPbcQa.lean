/- Layer 9 as plain functions: few, Cut, Span, Range, Same. -/
import Derived.Test.YthkpnnbjcendcaaBrhQa
import Derived.Test.YthkpnnbjcendcaaX69Qa
import Derived.Test.YthkpnnbjcendcaaX70Qa
import Derived.Test.YthkpnnbjcendcaaX71Qa
import Derived.Test.YthkpnnbjcendcaaX72Qa
import Derived.Test.YthkpnnbjcendcaaX73Qa
import Derived.Test.YthkpnnbjcendcaaX74Qa
import Derived.Test.YthkpnnbjcendcaaX80Qa
import Derived.Test.YthkpnnbjcendcaaX81Qa
import Derived.Test.YthkpnnbjcendcaaX82Qa
set_option linter.unusedVariables false
set_option linter.unusedSimpArgs false
open Go.RowKit Go.Proofs.Ythkpnnbjcendcaa.X Go.Proofs.Ythkpnnbjcendcaa.Pl Go.Proofs.YthkpnnbjcendcaaW.PrintWords Go.Proofs.YthkpnnbjcendcaaW.PrintLast Go.Proofs.YthkpnnbjcendcaaW.PrintMore
namespace Go.Proofs.Ythkpnnbjcendcaa.Pure
theorem shown9_ev : Ev (fun k => marigraphlaw09_shown.f k) true := Ev.of (fun k => marigraphlaw09_shown.mono k) (k := 30) (by decide +kernel)

theorem rdp52 (l : List S52) (i : Nat) (h : i < l.length) : rd_T52 l (i : Int) = l[i] := by
  unfold rd_T52; rw [Int.toNat_natCast]; exact getD_lt l i _ h
theorem rdc109 (l : List S109) (i : Nat) (h : i < l.length) : rd_T109 l (i : Int) = l[i] := by
  unfold rd_T109; rw [Int.toNat_natCast]; exact getD_lt l i _ h

/-- A list in chunks of m; the first number bounds how many. -/
def cutF (id : Int) (m : Nat) : Nat → List S52 → List S109
  | 0, _ => []
  | n + 1, l => if l.length = 0 then [] else ⟨id, l.take m⟩ :: cutF id m n (l.drop m)

theorem cutF_length (id : Int) (m : Nat) (hm : 0 < m) : ∀ (n : Nat) (l : List S52), l.length ≤ n → (cutF id m n l).length ≤ l.length
  | 0, l, h => by simp [cutF]
  | n + 1, l, h => by
    unfold cutF
    by_cases h0 : l.length = 0
    · rw [if_pos h0]; simp
    · rw [if_neg h0]
      have := cutF_length id m hm n (l.drop m) (by simp; omega)
      simp at this ⊢
      omega

theorem cut_ev (id : Int) (x2 : Int) (h2 : 1 ≤ x2) : ∀ (n : Nat) (l : List S52) (acc : List S109), l.length ≤ n → acc.length + l.length < 4398046511104 →
    Ev (fun k => block_Cut.l0 k id l x2 acc) (acc ++ cutF id x2.toNat n l)
  | 0, l, acc, h, hb => by
    obtain rfl : l = [] := List.eq_nil_of_length_eq_zero (by omega)
    refine ⟨1, fun k hk => ?_⟩
    obtain ⟨k, rfl⟩ : ∃ m, k = m + 1 := ⟨k - 1, by omega⟩
    simp [block_Cut.l0, cutF]
  | n + 1, l, acc, h, hb => by
    by_cases h0 : l.length = 0
    · obtain rfl : l = [] := List.eq_nil_of_length_eq_zero h0
      refine ⟨1, fun k hk => ?_⟩
      obtain ⟨k, rfl⟩ : ∃ m, k = m + 1 := ⟨k - 1, by omega⟩
      simp [block_Cut.l0, cutF]
    · have hmn := @mn_le x2 (l.length : Int)
      have ht : l.take (mn x2 (l.length : Int)).toNat = l.take x2.toNat := by
        rcases hmn.2.2 with e | e
        · rw [e]
        · rw [e, Int.toNat_natCast, List.take_length, List.take_of_length_le (by omega)]
      have hd : l.drop (mn x2 (l.length : Int)).toNat = l.drop x2.toNat := by
        rcases hmn.2.2 with e | e
        · rw [e]
        · rw [e, Int.toNat_natCast, List.drop_length, List.drop_of_length_le (by omega)]
      have hl : (l.drop x2.toNat).length < l.length := by simp; omega
      have ih := cut_ev id x2 h2 n (l.drop x2.toNat) (acc ++ [⟨id, l.take x2.toNat⟩]) (by omega) (by simp at hl ⊢; omega)
      have e : acc ++ cutF id x2.toNat (n + 1) l = (acc ++ [⟨id, l.take x2.toNat⟩]) ++ cutF id x2.toNat n (l.drop x2.toNat) := by
        conv => lhs; unfold cutF
        rw [if_neg h0]; simp
      rw [e]
      refine ev_succ (fun k => by rw [block_Cut.l0]) ?_
      refine ev_pos (by omega) (ev_pos (by rcases hmn.2.2 with e | e <;> omega) (ev_pos hmn.2.1 ?_))
      refine ev_const (a := l.take x2.toNat) ?_ ?_
      · unfold api_Point_84.f
        rw [ht]
        have : (l.take x2.toNat).length ≤ l.length := List.length_take_le' _ _
        simp only [Option.bind_some, List.length_nil, List.nil_append]
        rw [if_pos (by omega)]
      · refine ev_pos (by omega) ?_
        rw [hd]
        exact ih

theorem block_cut_ev (id : Int) (l : List S52) (m : Int) (hl : l.length < 4398046511104) : Ev (fun k => block_Cut.f k id l m) (cutF id (mx m 1).toNat l.length l) := by
  have h := cut_ev id (mx m 1) (by have := @mx_le m 1; omega) l.length l [] (Nat.le_refl _) (by simpa using hl)
  rw [List.nil_append] at h
  exact h

theorem cutF_join (id : Int) (m : Nat) (hm : 0 < m) : ∀ (n : Nat) (l : List S52), l.length ≤ n → (cutF id m n l).flatMap (·.f1) = l
  | 0, l, h => by
    obtain rfl : l = [] := List.eq_nil_of_length_eq_zero (by omega)
    simp [cutF]
  | n + 1, l, h => by
    unfold cutF
    by_cases h0 : l.length = 0
    · obtain rfl : l = [] := List.eq_nil_of_length_eq_zero h0
      simp
    · rw [if_neg h0, List.flatMap_cons, cutF_join id m hm n (l.drop m) (by simp; omega)]
      exact List.take_append_drop m l

/-- Each chunk has the id and points, at most m; all but the last one m. -/
theorem cutF_each (id : Int) (m : Nat) (hm : 0 < m) : ∀ (n : Nat) (l : List S52) (i : Nat) (c : S109), l.length ≤ n → (cutF id m n l)[i]? = some c →
    c.f0 = id ∧ 0 < c.f1.length ∧ c.f1.length ≤ m ∧ (i + 1 < (cutF id m n l).length → c.f1.length = m)
  | 0, l, i, c, h, hc => by simp [cutF] at hc
  | n + 1, l, i, c, h, hc => by
    unfold cutF at hc ⊢
    by_cases h0 : l.length = 0
    · rw [if_pos h0] at hc; simp at hc
    · rw [if_neg h0] at hc ⊢
      cases i with
      | zero =>
        simp at hc
        subst hc
        refine ⟨rfl, by simp; omega, by simp; omega, fun hi => ?_⟩
        simp only [List.length_cons] at hi
        have := cutF_length id m hm n (l.drop m) (by simp; omega)
        simp at this ⊢
        omega
      | succ i =>
        simp at hc
        have := cutF_each id m hm n (l.drop m) i c (by simp; omega) hc
        refine ⟨this.1, this.2.1, this.2.2.1, fun hi => this.2.2.2 (by simpa using hi)⟩

/-- One point more. -/
def spanP (s : Int × Int × Bool) (p : S52) : Int × Int × Bool := if s.2.2 = true then (mn s.1 p.f0, mx s.2.1 p.f0, true) else (p.f0, p.f0, true)
def spanL (s : Int × Int × Bool) (l : List S52) : Int × Int × Bool := l.foldl spanP s

theorem span_in (L : List S109) (N : Int) (j : Int) (l : List S52) (hl : l.length < 9223372036854775807) (r : Int × Int × Bool) (d : Nat) : ∀ (i : Nat) (a b : Int) (o : Bool), l.length - i = d → i ≤ l.length →
    (Ev (fun k => block_Span.l0 k (spanL (a, b, o) (l.drop i)).1 (spanL (a, b, o) (l.drop i)).2.1 (spanL (a, b, o) (l.drop i)).2.2 L N (wrap64 (j + 1))) r) →
    Ev (fun k => block_Span.l1 k a b o L N j l (l.length : Int) (i : Int)) r := by
  induction d with
  | zero =>
    intro i a b o hd hi h
    have hi' : i = l.length := by omega
    subst hi'
    refine ev_succ (fun k => by rw [block_Span.l1]) ?_
    refine ev_neg (by omega) ?_
    simpa [spanL] using h
  | succ d ih =>
    intro i a b o hd hi h
    have hlt : i < l.length := by omega
    have hw : wrap64 ((i : Int) + 1) = ((i + 1 : Nat) : Int) := by rw [w64 (by omega) (by omega)]; omega
    have hdr : l.drop i = l[i] :: l.drop (i + 1) := List.drop_eq_getElem_cons hlt
    refine ev_succ (fun k => by rw [block_Span.l1]) ?_
    refine ev_pos (by omega) (ev_pos (by omega) (ev_pos (by omega) ?_))
    rw [rdp52 l i hlt, hw]
    rw [hdr] at h
    cases o with
    | true =>
      refine ev_pos rfl (ih (i + 1) _ _ _ (by omega) (by omega) ?_)
      have e : spanL (a, b, true) (l[i] :: l.drop (i + 1)) = spanL (mn a l[i].f0, mx b l[i].f0, true) (l.drop (i + 1)) := by simp only [spanL, List.foldl_cons, spanP, if_true]
      rw [e] at h; exact h
    | false =>
      refine ev_neg (by simp) (ih (i + 1) _ _ _ (by omega) (by omega) ?_)
      have e : spanL (a, b, false) (l[i] :: l.drop (i + 1)) = spanL (l[i].f0, l[i].f0, true) (l.drop (i + 1)) := by simp only [spanL, List.foldl_cons, spanP]; rfl
      rw [e] at h; exact h

theorem span_out (L : List S109) (hL : L.length < 9223372036854775807) (hE : ∀ c ∈ L, c.f1.length < 9223372036854775807) (d : Nat) : ∀ (i : Nat) (s : Int × Int × Bool), L.length - i = d → i ≤ L.length →
    Ev (fun k => block_Span.l0 k s.1 s.2.1 s.2.2 L (L.length : Int) (i : Int)) (spanL s ((L.drop i).flatMap (·.f1))) := by
  induction d with
  | zero =>
    intro i s hd hi
    have hi' : i = L.length := by omega
    subst hi'
    refine ev_succ (fun k => by rw [block_Span.l0]) ?_
    refine ev_neg (by omega) ?_
    simp only [List.drop_length, List.flatMap_nil, spanL, List.foldl_nil]
    exact Ev.now _
  | succ d ih =>
    intro i s hd hi
    have hlt : i < L.length := by omega
    have hw : wrap64 ((i : Int) + 1) = ((i + 1 : Nat) : Int) := by rw [w64 (by omega) (by omega)]; omega
    have hdr : L.drop i = L[i] :: L.drop (i + 1) := List.drop_eq_getElem_cons hlt
    have hc : L[i].f1.length < 9223372036854775807 := hE _ (List.getElem_mem hlt)
    refine ev_succ (fun k => by rw [block_Span.l0]) ?_
    refine ev_pos (by omega) (ev_pos (by omega) (ev_pos (by omega) ?_))
    rw [rdc109 L i hlt]
    have h := ih (i + 1) (spanL s L[i].f1) (by omega) (by omega)
    have e : spanL (spanL s L[i].f1) ((L.drop (i + 1)).flatMap (·.f1)) = spanL s ((L.drop i).flatMap (·.f1)) := by
      rw [hdr, List.flatMap_cons]
      simp [spanL, List.foldl_append]
    rw [e] at h
    refine span_in L (L.length : Int) (i : Int) L[i].f1 hc _ _ 0 s.1 s.2.1 s.2.2 rfl (Nat.zero_le _) ?_
    rw [List.drop_zero, hw]
    exact h

theorem span_ev (L : List S109) (hL : L.length < 9223372036854775807) (hE : ∀ c ∈ L, c.f1.length < 9223372036854775807) : Ev (fun k => block_Span.f k L) (spanL (0, 0, false) (L.flatMap (·.f1))) := by
  have := span_out L hL hE _ 0 (0, 0, false) rfl (Nat.zero_le _)
  exact this

/-- What is told of points: whether there are any, and each is within. -/
theorem spanL_within : ∀ (l : List S52) (s : Int × Int × Bool), ((spanL s l).2.2 = (s.2.2 || decide (0 < l.length))) ∧ (s.2.2 = true → (spanL s l).1 ≤ s.1 ∧ s.2.1 ≤ (spanL s l).2.1) ∧ ∀ p ∈ l, (spanL s l).1 ≤ p.f0 ∧ p.f0 ≤ (spanL s l).2.1
  | [], s => by simp [spanL]
  | p :: l, s => by
    have ih := spanL_within l (spanP s p)
    have e : spanL s (p :: l) = spanL (spanP s p) l := rfl
    have h2 : (spanP s p).2.2 = true := by unfold spanP; split <;> rfl
    have hm := @mn_le s.1 p.f0
    have hM := @mx_le s.2.1 p.f0
    rw [e]
    obtain ⟨i1, i2, i3⟩ := ih
    have i2 := i2 h2
    have hp : (spanP s p).1 ≤ p.f0 ∧ p.f0 ≤ (spanP s p).2.1 := by unfold spanP; split <;> simp <;> omega
    refine ⟨by rw [i1, h2]; simp, fun hs => ?_, fun q hq => ?_⟩
    · have : spanP s p = (mn s.1 p.f0, mx s.2.1 p.f0, true) := by unfold spanP; rw [if_pos hs]
      rw [this] at i2 ⊢
      simp at i2
      omega
    · rcases List.mem_cons.1 hq with rfl | hq
      · omega
      · exact i3 q hq

/-! ### few -/
theorem few_from (l : List S109) (hl : l.length < 4398046511104) (hE : ∀ c ∈ l, c.f1.length < 9223372036854775807) (d : Nat) : ∀ (i : Nat) (left : Int), l.length - i = d → i ≤ l.length → i ≤ 210 → 0 ≤ left → left ≤ 6000 →
    ∃ n, i ≤ n ∧ n ≤ 210 ∧ (∀ c ∈ (l.take n).drop i, c.f1.length ≤ 1100) ∧ ((((l.take n).drop i).flatMap (·.f1)).length : Int) ≤ left ∧ Ev (fun k => marigraphlaw09_few.l0 k (l.take i) left l (l.length : Int) (i : Int)) (l.take n) := by
  have hz : ∀ (i : Nat) (left : Int), i ≤ 210 → 0 ≤ left → (∀ k, marigraphlaw09_few.l0 (k + 1) (l.take i) left l (l.length : Int) (i : Int) = some (l.take i)) →
      ∃ n, i ≤ n ∧ n ≤ 210 ∧ (∀ c ∈ (l.take n).drop i, c.f1.length ≤ 1100) ∧ ((((l.take n).drop i).flatMap (·.f1)).length : Int) ≤ left ∧ Ev (fun k => marigraphlaw09_few.l0 k (l.take i) left l (l.length : Int) (i : Int)) (l.take n) := by
    intro i left h1 h2 h3
    have e : (l.take i).drop i = [] := List.drop_eq_nil_of_le (by rw [List.length_take]; omega)
    exact ⟨i, Nat.le_refl _, h1, (by rw [e]; intro c hc; cases hc), (by rw [e]; simpa using h2), ev_stop h3⟩
  induction d with
  | zero =>
    intro i left hd hi h210 h0 h1
    exact hz i left h210 h0 fun k => by rw [marigraphlaw09_few.l0, if_neg (by omega)]
  | succ d ih =>
    intro i left hd hi h210 h0 h1
    have hlt : i < l.length := by omega
    have hmn := @mn_le left 1100
    by_cases c1 : i ≥ 210
    · exact hz i left h210 h0 fun k => by rw [marigraphlaw09_few.l0, if_pos (by omega), if_pos (by omega), if_pos (by omega), if_pos (by omega)]
    · by_cases c2 : (l[i].f1.length : Int) > mn left 1100
      · exact hz i left h210 h0 fun k => by rw [marigraphlaw09_few.l0, if_pos (by omega), if_pos (by omega), if_pos (by omega), if_neg (by omega), rdc109 l i hlt, if_pos c2]
      · have hw : wrap64 ((i : Int) + 1) = ((i + 1 : Nat) : Int) := by rw [w64 (by omega) (by omega)]; omega
        have hw2 : wrap64 (left - (l[i].f1.length : Int)) = left - (l[i].f1.length : Int) := w64 (by omega) (by omega)
        have ht : l.take i ++ [(⟨l[i].f0, l[i].f1⟩ : S109)] = l.take (i + 1) := (List.take_succ_eq_append_getElem hlt).symm
        obtain ⟨n, g1, g2, g3, g4, g5⟩ := ih (i + 1) (left - (l[i].f1.length : Int)) (by omega) (by omega) (by omega) (by omega) (by omega)
        have hdr : (l.take n).drop i = l[i] :: (l.take n).drop (i + 1) := by
          rw [List.drop_eq_getElem_cons (by rw [List.length_take]; omega), List.getElem_take]
        refine ⟨n, by omega, g2, ?_, ?_, ?_⟩
        · rw [hdr]
          intro c hc
          rcases List.mem_cons.1 hc with rfl | hc
          · omega
          · exact g3 c hc
        · rw [hdr, List.flatMap_cons, List.length_append]
          omega
        · refine ev_succ (fun k => by rw [marigraphlaw09_few.l0]) (ev_pos (by omega) (ev_pos (by omega) (ev_pos (by omega) (ev_neg (by omega) ?_))))
          rw [rdc109 l i hlt, hw, hw2, ht]
          exact ev_neg c2 (ev_pos (by rw [List.length_take]; omega) g5)
theorem few_ev (l : List S109) (hl : l.length < 4398046511104) (hE : ∀ c ∈ l, c.f1.length < 9223372036854775807) : ∃ n, Ev (fun k => marigraphlaw09_few.f k l) (l.take n) ∧ (l.take n).length ≤ 210 ∧ (∀ c ∈ l.take n, c.f1.length ≤ 1100) ∧ ((l.take n).flatMap (·.f1)).length ≤ 6000 := by
  obtain ⟨n, _, g2, g3, g4, g5⟩ := few_from l hl hE l.length 0 6000 (by omega) (Nat.zero_le _) (by omega) (by omega) (by omega)
  rw [List.drop_zero] at g3 g4
  exact ⟨n, g5, by rw [List.length_take]; omega, g3, by omega⟩
/-! ### The reference's Span -/
theorem spanP_ref (s : Int × Int × Bool) (t : S52) (L : List S109) (j : Int) (i : Int) (r : Int × Int × Bool) (h : Ev (fun k => marigraphref09_Span.l1 k L (spanP s t).1 (spanP s t).2.1 true j i) r) (x : Bool) (hx : x = (!s.2.2 || decide (t.f0 < s.1))) (i0 : Int) (hi : wrap64 (i0 + 1) = i) :
    Ev (fun k => marigraphref09_Span.j2 k L s.1 s.2.1 s.2.2 j i0 t.f0 x) r := by
  obtain ⟨a, b, o⟩ := s
  have hmn := @mn_le a t.f0
  have hmx := @mx_le b t.f0
  refine ev_succ (fun k => by rw [marigraphref09_Span.j2]) ?_
  dsimp only at hx h ⊢
  rw [hi]
  cases o
  · have hx : x = true := by rw [hx]; rfl
    refine ev_pos hx (ev_neg (by simp) ?_)
    simpa [spanP] using h
  · have e : spanP (a, b, true) t = (mn a t.f0, mx b t.f0, true) := by simp [spanP]
    rw [e] at h
    dsimp only at h
    by_cases h1 : t.f0 < a
    · have hx : x = true := by rw [hx, decide_eq_true h1]; rfl
      have e1 : mn a t.f0 = t.f0 := by omega
      rw [e1] at h
      refine ev_pos hx (ev_pos rfl ?_)
      by_cases h2 : t.f0 > b
      · have e2 : mx b t.f0 = t.f0 := by omega
        rw [e2] at h
        exact ev_pos h2 h
      · have e2 : mx b t.f0 = b := by omega
        rw [e2] at h
        exact ev_neg h2 h
    · have hx : x = false := by rw [hx, decide_eq_false h1]; rfl
      have e1 : mn a t.f0 = a := by omega
      rw [e1] at h
      refine ev_neg (by rw [hx]; simp) (ev_pos rfl ?_)
      by_cases h2 : t.f0 > b
      · have e2 : mx b t.f0 = t.f0 := by omega
        rw [e2] at h
        exact ev_pos h2 h
      · have e2 : mx b t.f0 = b := by omega
        rw [e2] at h
        exact ev_neg h2 h
theorem spanP_true (s : Int × Int × Bool) (p : S52) : (spanP s p).2.2 = true := by unfold spanP; split <;> rfl
theorem rspan_in (L : List S109) (j : Nat) (hj : j < L.length) (hl : L[j].f1.length < 9223372036854775807) (r : Int × Int × Bool) (d : Nat) : ∀ (i : Nat) (s : Int × Int × Bool), L[j].f1.length - i = d → i ≤ L[j].f1.length →
    (Ev (fun k => marigraphref09_Span.l0 k L (spanL s (L[j].f1.drop i)).1 (spanL s (L[j].f1.drop i)).2.1 (spanL s (L[j].f1.drop i)).2.2 (wrap64 ((j : Int) + 1))) r) →
    Ev (fun k => marigraphref09_Span.l1 k L s.1 s.2.1 s.2.2 (j : Int) (i : Int)) r := by
  induction d with
  | zero =>
    intro i s hd hi h
    refine ev_succ (fun k => by rw [marigraphref09_Span.l1]) (ev_pos (by omega) (ev_pos (by omega) ?_))
    rw [rdc109 L j hj]
    refine ev_neg (by omega) ?_
    rw [List.drop_eq_nil_of_le (by omega)] at h
    exact h
  | succ d ih =>
    intro i s hd hi h
    have hlt : i < L[j].f1.length := by omega
    have hw : wrap64 ((i : Int) + 1) = ((i + 1 : Nat) : Int) := by rw [w64 (by omega) (by omega)]; omega
    rw [List.drop_eq_getElem_cons hlt] at h
    refine ev_succ (fun k => by rw [marigraphref09_Span.l1]) (ev_pos (by omega) (ev_pos (by omega) ?_))
    rw [rdc109 L j hj]
    refine ev_pos (by omega) (ev_pos (by omega) ?_)
    rw [rdp52 _ i hlt]
    have h2 := ih (i + 1) (spanP s L[j].f1[i]) (by omega) (by omega) h
    rw [spanP_true] at h2
    by_cases ho : s.2.2 = true
    · exact ev_pos ho (spanP_ref s _ L j _ r h2 _ (by rw [ho]; rfl) _ hw)
    · have ho : s.2.2 = false := by simpa using ho
      exact ev_neg (by rw [ho]; simp) (spanP_ref s _ L j _ r h2 _ (by rw [ho]; rfl) _ hw)
theorem rspan_out (L : List S109) (hL : L.length < 9223372036854775807) (hE : ∀ c ∈ L, c.f1.length < 9223372036854775807) (d : Nat) : ∀ (i : Nat) (s : Int × Int × Bool), L.length - i = d → i ≤ L.length →
    Ev (fun k => marigraphref09_Span.l0 k L s.1 s.2.1 s.2.2 (i : Int)) (spanL s ((L.drop i).flatMap (·.f1))) := by
  induction d with
  | zero =>
    intro i s hd hi
    refine ev_succ (fun k => by rw [marigraphref09_Span.l0]) (ev_neg (by omega) ?_)
    rw [List.drop_eq_nil_of_le (by omega)]
    exact Ev.now _
  | succ d ih =>
    intro i s hd hi
    have hlt : i < L.length := by omega
    have hw : wrap64 ((i : Int) + 1) = ((i + 1 : Nat) : Int) := by rw [w64 (by omega) (by omega)]; omega
    have hdr : L.drop i = L[i] :: L.drop (i + 1) := List.drop_eq_getElem_cons hlt
    have hc : L[i].f1.length < 9223372036854775807 := hE _ (List.getElem_mem hlt)
    refine ev_succ (fun k => by rw [marigraphref09_Span.l0]) (ev_pos (by omega) ?_)
    have h := ih (i + 1) (spanL s L[i].f1) (by omega) (by omega)
    have e : spanL (spanL s L[i].f1) ((L.drop (i + 1)).flatMap (·.f1)) = spanL s ((L.drop i).flatMap (·.f1)) := by
      rw [hdr, List.flatMap_cons]
      simp [spanL, List.foldl_append]
    rw [e] at h
    exact rspan_in L i hlt hc _ _ 0 s rfl (Nat.zero_le _) (by rw [List.drop_zero, hw]; exact h)
theorem rspan_ev (L : List S109) (hL : L.length < 9223372036854775807) (hE : ∀ c ∈ L, c.f1.length < 9223372036854775807) : Ev (fun k => marigraphref09_Span.f k L) (spanL (0, 0, false) (L.flatMap (·.f1))) := rspan_out L hL hE _ 0 (0, 0, false) rfl (Nat.zero_le _)
/-! ### The reference's Range -/
theorem within_from (l : List S52) (fr tl : Int) (hl : l.length < 8796093022208) (d : Nat) : ∀ i : Nat, l.length - i = d → i ≤ l.length →
    Ev (fun k => marigraphref09_Within.l0 k l fr tl ((l.take i).filter (inR fr tl)) (i : Int)) (l.filter (inR fr tl)) := by
  induction d with
  | zero =>
    intro i hd hi
    refine ev_succ (fun k => by rw [marigraphref09_Within.l0]) (ev_neg (by omega) ?_)
    rw [List.take_of_length_le (by omega)]
    exact Ev.now _
  | succ d ih =>
    intro i hd hi
    have hlt : i < l.length := by omega
    have hw : wrap64 ((i : Int) + 1) = ((i + 1 : Nat) : Int) := by rw [w64 (by omega) (by omega)]; omega
    have h := ih (i + 1) (by omega) (by omega)
    rw [List.take_succ_eq_append_getElem hlt, List.filter_append] at h
    have hfl : ((l.take i).filter (inR fr tl)).length ≤ i := Nat.le_trans (List.length_filter_le _ _) (by rw [List.length_take]; omega)
    refine ev_succ (fun k => by rw [marigraphref09_Within.l0]) (ev_pos (by omega) (ev_pos (by omega) ?_))
    rw [rdp52 l i hlt, hw]
    by_cases h1 : l[i].f0 ≥ fr
    · by_cases h2 : l[i].f0 ≤ tl
      · have hp : inR fr tl l[i] = true := by unfold inR; rw [decide_eq_false (by omega), decide_eq_false (by omega)]; rfl
        refine ev_pos h1 (ev_pos h2 (ev_pos (by omega) ?_))
        simpa [hp] using h
      · have hp : inR fr tl l[i] = false := by unfold inR; rw [decide_eq_true (show tl < l[i].f0 by omega)]; simp
        refine ev_pos h1 (ev_neg h2 ?_)
        simpa [hp] using h
    · have hp : inR fr tl l[i] = false := by unfold inR; rw [decide_eq_true (show l[i].f0 < fr by omega)]; rfl
      refine ev_neg h1 ?_
      simpa [hp] using h
theorem within_ev (l : List S52) (fr tl : Int) (hl : l.length < 8796093022208) : Ev (fun k => marigraphref09_Within.f k l fr tl) (l.filter (inR fr tl)) := within_from l fr tl hl _ 0 rfl (Nat.zero_le _)
theorem rrange_from (l : List S109) (id fr tl : Int) (hl : l.length < 9223372036854775807) (hE : ∀ c ∈ l, c.f1.length < 8796093022208) (d : Nat) : ∀ i : Nat, l.length - i = d → i ≤ l.length → (∀ j (hj : j < l.length), j < i → l[j].f0 ≠ id) →
    Ev (fun k => marigraphref09_Range.l0 k l id fr tl (i : Int)) (rangeL l id fr tl) := by
  induction d with
  | zero =>
    intro i hd hi ha
    refine ev_succ (fun k => by rw [marigraphref09_Range.l0]) (ev_neg (by omega) ?_)
    have : l.findIdx? (fun x => x.f0 == id) = none := by
      rw [List.findIdx?_eq_none_iff]
      intro x hx
      obtain ⟨j, hj, rfl⟩ := List.getElem_of_mem hx
      simpa using ha j hj (by omega)
    unfold rangeL
    rw [this]
    exact Ev.now _
  | succ d ih =>
    intro i hd hi ha
    have hlt : i < l.length := by omega
    have hw : wrap64 ((i : Int) + 1) = ((i + 1 : Nat) : Int) := by rw [w64 (by omega) (by omega)]; omega
    refine ev_succ (fun k => by rw [marigraphref09_Range.l0]) (ev_pos (by omega) (ev_pos (by omega) ?_))
    rw [rdc109 l i hlt, hw]
    by_cases h1 : l[i].f0 = id
    · refine ev_pos h1 (ev_bind (within_ev l[i].f1 fr tl (hE _ (List.getElem_mem hlt))) ?_)
      have : l.findIdx? (fun x => x.f0 == id) = some i := List.findIdx?_eq_some_iff_getElem.2 ⟨hlt, by simpa using h1, fun j hj => by simpa using ha j (by omega) hj⟩
      unfold rangeL
      rw [this]
      dsimp only
      rw [rdc109 l i hlt]
      exact Ev.now _
    · refine ev_neg h1 (ih (i + 1) (by omega) (by omega) fun j hj hji => ?_)
      by_cases e : j = i
      · subst e; exact h1
      · exact ha j hj (by omega)
theorem rrange_ev (l : List S109) (id fr tl : Int) (hl : l.length < 9223372036854775807) (hE : ∀ c ∈ l, c.f1.length < 8796093022208) : Ev (fun k => marigraphref09_Range.f k l id fr tl) (rangeL l id fr tl) :=
  rrange_from l id fr tl hl hE _ 0 rfl (Nat.zero_le _) (fun j _ hj => absurd hj (Nat.not_lt_zero _))
/-! ### The reference's Cut -/
theorem cutF_fuel (id : Int) (m : Nat) (hm : 0 < m) : ∀ (n n' : Nat) (l : List S52), l.length ≤ n → l.length ≤ n' → cutF id m n l = cutF id m n' l
  | 0, n', l, h, h' => by
    obtain rfl : l = [] := List.eq_nil_of_length_eq_zero (by omega)
    cases n' <;> simp [cutF]
  | n + 1, 0, l, h, h' => by
    obtain rfl : l = [] := List.eq_nil_of_length_eq_zero (by omega)
    simp [cutF]
  | n + 1, n' + 1, l, h, h' => by
    by_cases h0 : l.length = 0
    · simp [cutF, h0]
    · unfold cutF
      rw [if_neg h0, if_neg h0, cutF_fuel id m hm n n' (l.drop m) (by simp; omega) (by simp; omega)]
/-- Points in chunks of m. -/
def cutL (id : Int) (m : Nat) (l : List S52) : List S109 := cutF id m l.length l
theorem cutL_nil (id : Int) (m : Nat) : cutL id m [] = [] := rfl
theorem cutL_cons (id : Int) (m : Nat) (hm : 0 < m) (x : S52) (l : List S52) : cutL id m (x :: l) = ⟨id, x :: l.take (m - 1)⟩ :: cutL id m (l.drop (m - 1)) := by
  unfold cutL
  rw [List.length_cons]
  conv => lhs; unfold cutF
  rw [if_neg (by simp)]
  obtain ⟨k, rfl⟩ : ∃ k, m = k + 1 := ⟨m - 1, by omega⟩
  rw [List.take_succ_cons, List.drop_succ_cons, Nat.add_sub_cancel]
  rw [cutF_fuel id (k + 1) hm l.length (l.drop k).length (l.drop k) (by simp) (Nat.le_refl _)]
/-- What the reference has so far, and what is still to come. -/
def cutT (id : Int) (m : Nat) (acc : List S109) (r : List S52) : List S109 := match acc.getLast? with
  | none => cutL id m r
  | some c => acc.dropLast ++ ⟨c.f0, c.f1 ++ r.take (m - c.f1.length)⟩ :: cutL id m (r.drop (m - c.f1.length))
theorem gl_one (ys : List S109) (c : S109) : (ys ++ [c]).getLast? = some c := by simp
theorem cutT_nil (id : Int) (m : Nat) (acc : List S109) : cutT id m acc [] = acc := by
  unfold cutT
  rcases h : acc.getLast? with _ | c
  · rw [List.getLast?_eq_none_iff] at h
    rw [h]; rfl
  · obtain ⟨ys, rfl⟩ := List.getLast?_eq_some_iff.1 h
    simp [cutL_nil]
theorem cutT_new (id : Int) (m : Nat) (hm : 0 < m) (acc : List S109) (x : S52) (r : List S52) (h : ∀ c, acc.getLast? = some c → m ≤ c.f1.length) : cutT id m (acc ++ [⟨id, [x]⟩]) r = cutT id m acc (x :: r) := by
  have e1 : cutT id m (acc ++ [⟨id, [x]⟩]) r = acc ++ cutL id m (x :: r) := by
    unfold cutT
    rw [gl_one]
    simp [cutL_cons id m hm]
  rw [e1]
  unfold cutT
  rcases h2 : acc.getLast? with _ | c
  · rw [List.getLast?_eq_none_iff] at h2
    rw [h2]; rfl
  · have hc := h c h2
    obtain ⟨ys, rfl⟩ := List.getLast?_eq_some_iff.1 h2
    have : m - c.f1.length = 0 := by omega
    simp [this]
theorem cutT_more (id : Int) (m : Nat) (ys : List S109) (c : S109) (x : S52) (r : List S52) (h : c.f1.length < m) : cutT id m (ys ++ [⟨c.f0, c.f1 ++ [x]⟩]) r = cutT id m (ys ++ [c]) (x :: r) := by
  unfold cutT
  rw [gl_one, gl_one]
  obtain ⟨k, hk⟩ : ∃ k, m - c.f1.length = k + 1 := ⟨m - c.f1.length - 1, by omega⟩
  have hk2 : m - (c.f1.length + 1) = k := by omega
  simp [hk, hk2]
theorem set_last (ys : List S109) (c d : S109) : (ys ++ [c]).set ys.length d = ys ++ [d] := by simp
theorem get_last (ys : List S109) (c : S109) : rd_T109 (ys ++ [c]) (ys.length : Int) = c := by
  unfold rd_T109
  rw [Int.toNat_natCast, List.getD_eq_getElem?_getD]
  simp
theorem rcut_first (id : Int) (l : List S52) (most : Int) (i : Nat) (hlt : i < l.length) (k : Nat) : marigraphref09_Cut.l0 (k + 1) id l most [] (i : Int) = marigraphref09_Cut.l0 k id l most ([] ++ [⟨id, [l[i]]⟩]) (wrap64 ((i : Int) + 1)) := by
  have h0 : (i : Int) < (l.length : Int) := by omega
  have hk : wrap64 ((([] : List S109).length : Int) - 1) = -1 := by rw [w64 (by simp) (by simp)]; rfl
  have hk2 : wrap64 (-1 + 1) = 0 := by rw [w64 (by omega) (by omega)]; rfl
  have h1 : (0 : Int) < ((([] : List S109) ++ [(⟨id, []⟩ : S109)]).length : Int) := by simp
  have h2 : (0 : Int) ≤ (i : Int) := by omega
  have h3 : (rd_T109 (([] : List S109) ++ [(⟨id, []⟩ : S109)]) 0).f1.length < 8796093022208 := by simp [rd_T109]
  rw [marigraphref09_Cut.l0, if_pos h0, hk, if_pos (by decide), if_pos (by simp), Option.bind_some, hk2, if_pos (Int.le_refl 0), if_pos h1, if_pos h2, if_pos h3, rdp52 l i hlt]
  rfl
theorem rcut_next (id : Int) (l : List S52) (most : Int) (i : Nat) (ys : List S109) (c : S109) (hlt : i < l.length) (hy : ys.length < 1000000000000) (hge : (c.f1.length : Int) ≥ mx most 1) (k : Nat) : marigraphref09_Cut.l0 (k + 1) id l most (ys ++ [c]) (i : Int) = marigraphref09_Cut.l0 k id l most ((ys ++ [c]) ++ [⟨id, [l[i]]⟩]) (wrap64 ((i : Int) + 1)) := by
  have h0 : (i : Int) < (l.length : Int) := by omega
  have hyl : (ys ++ [c]).length = ys.length + 1 := by simp
  have hk : wrap64 (((ys ++ [c]).length : Int) - 1) = (ys.length : Int) := by rw [w64 (by omega) (by omega)]; omega
  have hk2 : wrap64 ((ys.length : Int) + 1) = ((ys ++ [c]).length : Int) := by rw [w64 (by omega) (by omega)]; omega
  have h1 : ¬ (ys.length : Int) < 0 := by omega
  have h2 : 0 ≤ (ys.length : Int) := by omega
  have h3 : (ys.length : Int) < ((ys ++ [c]).length : Int) := by omega
  have h4 : (ys ++ [c]).length < 4398046511104 := by omega
  have h5 : 0 ≤ ((ys ++ [c]).length : Int) := by omega
  have h6 : ((ys ++ [c]).length : Int) < (((ys ++ [c]) ++ [(⟨id, []⟩ : S109)]).length : Int) := by simp
  have h7 : (0 : Int) ≤ (i : Int) := by omega
  have h8 : (rd_T109 ((ys ++ [c]) ++ [(⟨id, []⟩ : S109)]) ((ys ++ [c]).length : Int)).f1.length < 8796093022208 := by rw [get_last]; simp
  have h9 : (((rd_T109 (ys ++ [c]) (ys.length : Int)).f1).length : Int) ≥ (mx most 1) := by rw [get_last]; exact hge
  rw [marigraphref09_Cut.l0, if_pos h0, hk, if_neg h1, if_pos h2, if_pos h3, if_pos h9, if_pos h4, Option.bind_some, hk2, if_pos h5, if_pos h6, if_pos h7, if_pos h8, get_last (ys ++ [c]), Int.toNat_natCast, set_last, rdp52 l i hlt]
  rfl
theorem rcut_same (id : Int) (l : List S52) (most : Int) (i : Nat) (ys : List S109) (c : S109) (hlt : i < l.length) (hy : ys.length < 1000000000000) (hc : c.f1.length < 1000000000000) (hge : ¬ (c.f1.length : Int) ≥ mx most 1) (k : Nat) : marigraphref09_Cut.l0 (k + 1) id l most (ys ++ [c]) (i : Int) = marigraphref09_Cut.l0 k id l most (ys ++ [⟨c.f0, c.f1 ++ [l[i]]⟩]) (wrap64 ((i : Int) + 1)) := by
  have h0 : (i : Int) < (l.length : Int) := by omega
  have hyl : (ys ++ [c]).length = ys.length + 1 := by simp
  have hk : wrap64 (((ys ++ [c]).length : Int) - 1) = (ys.length : Int) := by rw [w64 (by omega) (by omega)]; omega
  have h1 : ¬ (ys.length : Int) < 0 := by omega
  have h2 : 0 ≤ (ys.length : Int) := by omega
  have h3 : (ys.length : Int) < ((ys ++ [c]).length : Int) := by omega
  have h7 : (0 : Int) ≤ (i : Int) := by omega
  have h8 : (rd_T109 (ys ++ [c]) (ys.length : Int)).f1.length < 8796093022208 := by rw [get_last]; omega
  have h9 : ¬ (((rd_T109 (ys ++ [c]) (ys.length : Int)).f1).length : Int) ≥ (mx most 1) := by rw [get_last]; exact hge
  rw [marigraphref09_Cut.l0, if_pos h0, hk, if_neg h1, if_pos h2, if_pos h3, if_neg h9, if_pos h7, if_pos h8, get_last, Int.toNat_natCast, set_last, rdp52 l i hlt]
set_option maxHeartbeats 8000000 in
theorem rcut_from (id : Int) (l : List S52) (most : Int) (hl : l.length < 1000000000000) (d : Nat) : ∀ (i : Nat) (acc : List S109), l.length - i = d → i ≤ l.length → acc.length ≤ i → (∀ c ∈ acc, c.f1.length ≤ i) →
    Ev (fun k => marigraphref09_Cut.l0 k id l most acc (i : Int)) (cutT id (mx most 1).toNat acc (l.drop i)) := by
  have hmx := @mx_le most 1
  induction d with
  | zero =>
    intro i acc hd hi hac hae
    refine ev_succ (fun k => by rw [marigraphref09_Cut.l0]) (ev_neg (by omega) ?_)
    rw [List.drop_eq_nil_of_le (by omega), cutT_nil]
    exact Ev.now _
  | succ d ih =>
    intro i acc hd hi hac hae
    have hlt : i < l.length := by omega
    have hw : wrap64 ((i : Int) + 1) = ((i + 1 : Nat) : Int) := by rw [w64 (by omega) (by omega)]; omega
    have hdr : l.drop i = l[i] :: l.drop (i + 1) := List.drop_eq_getElem_cons hlt
    have hnew : ∀ (hh : ∀ c, acc.getLast? = some c → (mx most 1).toNat ≤ c.f1.length), Ev (fun k => marigraphref09_Cut.l0 k id l most (acc ++ [⟨id, [l[i]]⟩]) ((i + 1 : Nat) : Int)) (cutT id (mx most 1).toNat acc (l.drop i)) := fun hh => by
      have := ih (i + 1) (acc ++ [⟨id, [l[i]]⟩]) (by omega) (by omega) (by simp; omega) (fun c hc => by
        rcases List.mem_append.1 hc with hc | hc
        · have := hae c hc; omega
        · rw [List.mem_singleton.1 hc]; simp)
      rw [cutT_new id _ (by omega) acc _ _ hh, ← hdr] at this
      exact this
    rcases h : acc.getLast? with _ | c
    · rw [List.getLast?_eq_none_iff] at h
      subst h
      refine ev_succ (rcut_first id l most i hlt) ?_
      rw [hw]
      exact hnew (fun c hc => by simp at hc)
    · obtain ⟨ys, rfl⟩ := List.getLast?_eq_some_iff.1 h
      have hyl : (ys ++ [c]).length = ys.length + 1 := by simp
      have hcl := hae c (by simp)
      by_cases hge : (c.f1.length : Int) ≥ mx most 1
      · refine ev_succ (rcut_next id l most i ys c hlt (by omega) hge) ?_
        rw [hw]
        exact hnew (fun c' hc' => by
          rw [h] at hc'
          injection hc' with hc'
          subst hc'
          omega)
      · refine ev_succ (rcut_same id l most i ys c hlt (by omega) (by omega) hge) ?_
        rw [hw, hdr]
        have := ih (i + 1) (ys ++ [⟨c.f0, c.f1 ++ [l[i]]⟩]) (by omega) (by omega) (by simp; simp at hac; omega) (fun c' hc' => by
          rcases List.mem_append.1 hc' with hc' | hc'
          · have := hae c' (by simp [hc']); omega
          · rw [List.mem_singleton.1 hc']
            simp
            omega)
        rw [cutT_more id _ ys c _ _ (by omega)] at this
        exact this
theorem rcut_ev (id : Int) (l : List S52) (most : Int) (hl : l.length < 1000000000000) : Ev (fun k => marigraphref09_Cut.f k id l most) (cutL id (mx most 1).toNat l) :=
  rcut_from id l most hl _ 0 [] rfl (Nat.zero_le _) (Nat.zero_le _) (fun c hc => by cases hc)
/-! ### Same -/
theorem same4_ev (l : List S52) (hl : l.length < 9223372036854775807) : Ev (fun k => marigraphref04_Same.f k l l) true := by
  have go : ∀ (d i : Nat), l.length - i = d → i ≤ l.length → Ev (fun k => marigraphref04_Same.l0 k l l (i : Int)) true := by
    intro d
    induction d with
    | zero =>
      intro i hd hi
      exact ev_stop fun k => by rw [marigraphref04_Same.l0, if_neg (by omega)]
    | succ d ih =>
      intro i hd hi
      refine ev_succ (fun k => by rw [marigraphref04_Same.l0]) ?_
      refine ev_pos (by omega) (ev_pos (by omega) (ev_pos (by omega) (ev_neg (by simp) ?_)))
      rw [w64 (by omega) (by omega)]
      exact ih (i + 1) (by omega) (by omega)
  unfold marigraphref04_Same.f
  exact ev_pos rfl (go _ 0 rfl (Nat.zero_le _))
theorem same9_ev (l : List S109) (hl : l.length < 9223372036854775807) (hE : ∀ c ∈ l, c.f1.length < 9223372036854775807) (hS : ∀ c ∈ l, Ev (fun k => marigraphref04_Same.f k c.f1 c.f1) true) : Ev (fun k => marigraphref09_Same.f k l l) true := by
  have go : ∀ (d i : Nat), l.length - i = d → i ≤ l.length → Ev (fun k => marigraphref09_Same.l0 k l l (i : Int)) true := by
    intro d
    induction d with
    | zero =>
      intro i hd hi
      exact ev_stop fun k => by rw [marigraphref09_Same.l0, if_neg (by omega)]
    | succ d ih =>
      intro i hd hi
      have hlt : i < l.length := by omega
      refine ev_succ (fun k => by rw [marigraphref09_Same.l0]) ?_
      refine ev_pos (by omega) (ev_pos (by omega) (ev_pos (by omega) (ev_pos rfl ?_)))
      rw [rdc109 l i hlt]
      refine ev_bind (hS _ (List.getElem_mem hlt)) (ev_pos rfl ?_)
      rw [w64 (by omega) (by omega)]
      exact ih (i + 1) (by omega) (by omega)
  unfold marigraphref09_Same.f
  exact ev_pos rfl (go _ 0 rfl (Nat.zero_le _))
end Go.Proofs.Ythkpnnbjcendcaa.Pure

