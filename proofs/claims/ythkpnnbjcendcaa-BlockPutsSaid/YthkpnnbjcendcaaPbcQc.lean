/- Layer 9 as plain functions: few, Cut, Span, Range, Same. -/
import Derived.Test.YthkpnnbjcendcaaBrhQc
import Derived.Test.YthkpnnbjcendcaaX69Qc
import Derived.Test.YthkpnnbjcendcaaX70Qc
import Derived.Test.YthkpnnbjcendcaaX71Qc
import Derived.Test.YthkpnnbjcendcaaX72Qc
import Derived.Test.YthkpnnbjcendcaaX73Qc
import Derived.Test.YthkpnnbjcendcaaX74Qc
import Derived.Test.YthkpnnbjcendcaaX80Qc
import Derived.Test.YthkpnnbjcendcaaX81Qc
import Derived.Test.YthkpnnbjcendcaaX82Qc
set_option linter.unusedVariables false
set_option linter.unusedSimpArgs false
open Go.RowKit Go.Proofs.Ythkpnnbjcendcaa.X Go.Proofs.Ythkpnnbjcendcaa.Pl Go.Proofs.YthkpnnbjcendcaaW.PrintWords Go.Proofs.YthkpnnbjcendcaaW.PrintLast Go.Proofs.YthkpnnbjcendcaaW.PrintMore
namespace Go.Proofs.Ythkpnnbjcendcaa.Pure
theorem shown9_ev : Ev (fun k => marigraphlaw09_shown.f k) true := Ev.of (fun k => marigraphlaw09_shown.mono k) (k := 30) (by decide +kernel)

theorem rdc109 (l : List S109) (i : Nat) (h : i < l.length) : rd_T109 l (i : Int) = l[i] := by
  unfold rd_T109; rw [Int.toNat_natCast]; exact getD_lt l i _ h

/-- A list in chunks of m; the first number bounds how many. -/
def cutF (id : Int) (m : Nat) : Nat → List S52 → List S109
  | 0, _ => []
  | n + 1, l => if l.length = 0 then [] else ⟨id, l.take m⟩ :: cutF id m n (l.drop m)

theorem cutF_length (id : Int) (m : Nat) (hm : 0 < m) : ∀ (n : Nat) (l : List S52), l.length ≤ n → (cutF id m n l).length ≤ l.length
  | 0, l, h => by simp [cutF]
  | n + 1, l, h => by
    unfold cutF
    by_cases h0 : l.length = 0
    · rw [if_pos h0]; simp
    · rw [if_neg h0]
      have := cutF_length id m hm n (l.drop m) (by simp; omega)
      simp at this ⊢
      omega

/-- Each chunk has the id and points, at most m; all but the last one m. -/
theorem cutF_each (id : Int) (m : Nat) (hm : 0 < m) : ∀ (n : Nat) (l : List S52) (i : Nat) (c : S109), l.length ≤ n → (cutF id m n l)[i]? = some c →
    c.f0 = id ∧ 0 < c.f1.length ∧ c.f1.length ≤ m ∧ (i + 1 < (cutF id m n l).length → c.f1.length = m)
  | 0, l, i, c, h, hc => by simp [cutF] at hc
  | n + 1, l, i, c, h, hc => by
    unfold cutF at hc ⊢
    by_cases h0 : l.length = 0
    · rw [if_pos h0] at hc; simp at hc
    · rw [if_neg h0] at hc ⊢
      cases i with
      | zero =>
        simp at hc
        subst hc
        refine ⟨rfl, by simp; omega, by simp; omega, fun hi => ?_⟩
        simp only [List.length_cons] at hi
        have := cutF_length id m hm n (l.drop m) (by simp; omega)
        simp at this ⊢
        omega
      | succ i =>
        simp at hc
        have := cutF_each id m hm n (l.drop m) i c (by simp; omega) hc
        refine ⟨this.1, this.2.1, this.2.2.1, fun hi => this.2.2.2 (by simpa using hi)⟩

/-- One point more. -/
def spanP (s : Int × Int × Bool) (p : S52) : Int × Int × Bool := if s.2.2 = true then (mn s.1 p.f0, mx s.2.1 p.f0, true) else (p.f0, p.f0, true)
def spanL (s : Int × Int × Bool) (l : List S52) : Int × Int × Bool := l.foldl spanP s

/-- What is told of points: whether there are any, and each is within. -/
theorem spanL_within : ∀ (l : List S52) (s : Int × Int × Bool), ((spanL s l).2.2 = (s.2.2 || decide (0 < l.length))) ∧ (s.2.2 = true → (spanL s l).1 ≤ s.1 ∧ s.2.1 ≤ (spanL s l).2.1) ∧ ∀ p ∈ l, (spanL s l).1 ≤ p.f0 ∧ p.f0 ≤ (spanL s l).2.1
  | [], s => by simp [spanL]
  | p :: l, s => by
    have ih := spanL_within l (spanP s p)
    have e : spanL s (p :: l) = spanL (spanP s p) l := rfl
    have h2 : (spanP s p).2.2 = true := by unfold spanP; split <;> rfl
    have hm := @mn_le s.1 p.f0
    have hM := @mx_le s.2.1 p.f0
    rw [e]
    obtain ⟨i1, i2, i3⟩ := ih
    have i2 := i2 h2
    have hp : (spanP s p).1 ≤ p.f0 ∧ p.f0 ≤ (spanP s p).2.1 := by unfold spanP; split <;> simp <;> omega
    refine ⟨by rw [i1, h2]; simp, fun hs => ?_, fun q hq => ?_⟩
    · have : spanP s p = (mn s.1 p.f0, mx s.2.1 p.f0, true) := by unfold spanP; rw [if_pos hs]
      rw [this] at i2 ⊢
      simp at i2
      omega
    · rcases List.mem_cons.1 hq with rfl | hq
      · omega
      · exact i3 q hq

/-! ### few -/
theorem few_from (l : List S109) (hl : l.length < 4398046511104) (hE : ∀ c ∈ l, c.f1.length < 9223372036854775807) (d : Nat) : ∀ (i : Nat) (left : Int), l.length - i = d → i ≤ l.length → i ≤ 210 → 0 ≤ left → left ≤ 6000 →
    ∃ n, i ≤ n ∧ n ≤ 210 ∧ (∀ c ∈ (l.take n).drop i, c.f1.length ≤ 1100) ∧ ((((l.take n).drop i).flatMap (·.f1)).length : Int) ≤ left ∧ Ev (fun k => marigraphlaw09_few.l0 k (l.take i) left l (l.length : Int) (i : Int)) (l.take n) := by
  have hz : ∀ (i : Nat) (left : Int), i ≤ 210 → 0 ≤ left → (∀ k, marigraphlaw09_few.l0 (k + 1) (l.take i) left l (l.length : Int) (i : Int) = some (l.take i)) →
      ∃ n, i ≤ n ∧ n ≤ 210 ∧ (∀ c ∈ (l.take n).drop i, c.f1.length ≤ 1100) ∧ ((((l.take n).drop i).flatMap (·.f1)).length : Int) ≤ left ∧ Ev (fun k => marigraphlaw09_few.l0 k (l.take i) left l (l.length : Int) (i : Int)) (l.take n) := by
    intro i left h1 h2 h3
    have e : (l.take i).drop i = [] := List.drop_eq_nil_of_le (by rw [List.length_take]; omega)
    exact ⟨i, Nat.le_refl _, h1, (by rw [e]; intro c hc; cases hc), (by rw [e]; simpa using h2), ev_stop h3⟩
  induction d with
  | zero =>
    intro i left hd hi h210 h0 h1
    exact hz i left h210 h0 fun k => by rw [marigraphlaw09_few.l0, if_neg (by omega)]
  | succ d ih =>
    intro i left hd hi h210 h0 h1
    have hlt : i < l.length := by omega
    have hmn := @mn_le left 1100
    by_cases c1 : i ≥ 210
    · exact hz i left h210 h0 fun k => by rw [marigraphlaw09_few.l0, if_pos (by omega), if_pos (by omega), if_pos (by omega), if_pos (by omega)]
    · by_cases c2 : (l[i].f1.length : Int) > mn left 1100
      · exact hz i left h210 h0 fun k => by rw [marigraphlaw09_few.l0, if_pos (by omega), if_pos (by omega), if_pos (by omega), if_neg (by omega), rdc109 l i hlt, if_pos c2]
      · have hw : wrap64 ((i : Int) + 1) = ((i + 1 : Nat) : Int) := by rw [w64 (by omega) (by omega)]; omega
        have hw2 : wrap64 (left - (l[i].f1.length : Int)) = left - (l[i].f1.length : Int) := w64 (by omega) (by omega)
        have ht : l.take i ++ [(⟨l[i].f0, l[i].f1⟩ : S109)] = l.take (i + 1) := (List.take_succ_eq_append_getElem hlt).symm
        obtain ⟨n, g1, g2, g3, g4, g5⟩ := ih (i + 1) (left - (l[i].f1.length : Int)) (by omega) (by omega) (by omega) (by omega) (by omega)
        have hdr : (l.take n).drop i = l[i] :: (l.take n).drop (i + 1) := by
          rw [List.drop_eq_getElem_cons (by rw [List.length_take]; omega), List.getElem_take]
        refine ⟨n, by omega, g2, ?_, ?_, ?_⟩
        · rw [hdr]
          intro c hc
          rcases List.mem_cons.1 hc with rfl | hc
          · omega
          · exact g3 c hc
        · rw [hdr, List.flatMap_cons, List.length_append]
          omega
        · refine ev_succ (fun k => by rw [marigraphlaw09_few.l0]) (ev_pos (by omega) (ev_pos (by omega) (ev_pos (by omega) (ev_neg (by omega) ?_))))
          rw [rdc109 l i hlt, hw, hw2, ht]
          exact ev_neg c2 (ev_pos (by rw [List.length_take]; omega) g5)
theorem few_ev (l : List S109) (hl : l.length < 4398046511104) (hE : ∀ c ∈ l, c.f1.length < 9223372036854775807) : ∃ n, Ev (fun k => marigraphlaw09_few.f k l) (l.take n) ∧ (l.take n).length ≤ 210 ∧ (∀ c ∈ l.take n, c.f1.length ≤ 1100) ∧ ((l.take n).flatMap (·.f1)).length ≤ 6000 := by
  obtain ⟨n, _, g2, g3, g4, g5⟩ := few_from l hl hE l.length 0 6000 (by omega) (Nat.zero_le _) (by omega) (by omega) (by omega)
  rw [List.drop_zero] at g3 g4
  exact ⟨n, g5, by rw [List.length_take]; omega, g3, by omega⟩
/-! ### The reference's Span -/
/-! ### The reference's Range -/
/-! ### The reference's Cut -/
/-- Points in chunks of m. -/
def cutL (id : Int) (m : Nat) (l : List S52) : List S109 := cutF id m l.length l
/-- What the reference has so far, and what is still to come. -/
def cutT (id : Int) (m : Nat) (acc : List S109) (r : List S52) : List S109 := match acc.getLast? with
  | none => cutL id m r
  | some c => acc.dropLast ++ ⟨c.f0, c.f1 ++ r.take (m - c.f1.length)⟩ :: cutL id m (r.drop (m - c.f1.length))
/-! ### Same -/
end Go.Proofs.Ythkpnnbjcendcaa.Pure

