/- What block.Cut, block.Span and Same come to, as plain functions on lists. -/
import Derived.Test.YtckcplmjnpgegaaPl
import Derived.Test.YtckcplmjnpgegaaX3
import Derived.Test.YtckcplmjnpgegaaX4
import Derived.Test.YtckcplmjnpgegaaX5
import Derived.Test.YtckcplmjnpgegaaX6
namespace Go.Proofs.Ytckcplmjnpgegaa.Pure
open Go.RowKit Go.Proofs.Ytckcplmjnpgegaa.X Go.Proofs.Ytckcplmjnpgegaa.Pl Go.Proofs.YtckcplmjnpgegaaW.PrintWords Go.Proofs.YtckcplmjnpgegaaW.PrintLast Go.Proofs.YtckcplmjnpgegaaW.PrintMore

theorem shown_ev : Ev (fun k => marigraphlaw09_shown.f k) true := Ev.of (fun k => marigraphlaw09_shown.mono k) (k := 30) (by decide +kernel)

theorem rd33 (l : List S33) (i : Nat) (h : i < l.length) : rd_T33 l (i : Int) = l[i] := by
  unfold rd_T33; rw [Int.toNat_natCast]; exact getD_lt l i _ h
theorem rd27 (l : List S27) (i : Nat) (h : i < l.length) : rd_T27 l (i : Int) = l[i] := by
  unfold rd_T27; rw [Int.toNat_natCast]; exact getD_lt l i _ h

/-- A list in chunks of m; the first number bounds how many. -/
def cutF (id : Int) (m : Nat) : Nat → List S33 → List S27
  | 0, _ => []
  | n + 1, l => if l.length = 0 then [] else ⟨id, l.take m⟩ :: cutF id m n (l.drop m)

theorem cutF_length (id : Int) (m : Nat) (hm : 0 < m) : ∀ (n : Nat) (l : List S33), l.length ≤ n → (cutF id m n l).length ≤ l.length
  | 0, l, h => by simp [cutF]
  | n + 1, l, h => by
    unfold cutF
    by_cases h0 : l.length = 0
    · rw [if_pos h0]; simp
    · rw [if_neg h0]
      have := cutF_length id m hm n (l.drop m) (by simp; omega)
      simp at this ⊢
      omega

theorem cut_ev (id : Int) (x2 : Int) (h2 : 1 ≤ x2) : ∀ (n : Nat) (l : List S33) (acc : List S27), l.length ≤ n → acc.length + l.length < 4398046511104 →
    Ev (fun k => block_Cut.l0 k id l x2 acc) (acc ++ cutF id x2.toNat n l)
  | 0, l, acc, h, hb => by
    obtain rfl : l = [] := List.eq_nil_of_length_eq_zero (by omega)
    refine ⟨1, fun k hk => ?_⟩
    obtain ⟨k, rfl⟩ : ∃ m, k = m + 1 := ⟨k - 1, by omega⟩
    simp [block_Cut.l0, cutF]
  | n + 1, l, acc, h, hb => by
    by_cases h0 : l.length = 0
    · obtain rfl : l = [] := List.eq_nil_of_length_eq_zero h0
      refine ⟨1, fun k hk => ?_⟩
      obtain ⟨k, rfl⟩ : ∃ m, k = m + 1 := ⟨k - 1, by omega⟩
      simp [block_Cut.l0, cutF]
    · have hmn := @mn_le x2 (l.length : Int)
      have ht : l.take (mn x2 (l.length : Int)).toNat = l.take x2.toNat := by
        rcases hmn.2.2 with e | e
        · rw [e]
        · rw [e, Int.toNat_natCast, List.take_length, List.take_of_length_le (by omega)]
      have hd : l.drop (mn x2 (l.length : Int)).toNat = l.drop x2.toNat := by
        rcases hmn.2.2 with e | e
        · rw [e]
        · rw [e, Int.toNat_natCast, List.drop_length, List.drop_of_length_le (by omega)]
      have hl : (l.drop x2.toNat).length < l.length := by simp; omega
      have ih := cut_ev id x2 h2 n (l.drop x2.toNat) (acc ++ [⟨id, l.take x2.toNat⟩]) (by omega) (by simp at hl ⊢; omega)
      have e : acc ++ cutF id x2.toNat (n + 1) l = (acc ++ [⟨id, l.take x2.toNat⟩]) ++ cutF id x2.toNat n (l.drop x2.toNat) := by
        conv => lhs; unfold cutF
        rw [if_neg h0]; simp
      rw [e]
      refine ev_succ (fun k => by rw [block_Cut.l0]) ?_
      refine ev_pos (by omega) (ev_pos (by rcases hmn.2.2 with e | e <;> omega) (ev_pos hmn.2.1 ?_))
      refine ev_const (a := l.take x2.toNat) ?_ ?_
      · unfold api_Point.f
        rw [ht]
        have : (l.take x2.toNat).length ≤ l.length := List.length_take_le' _ _
        simp only [Option.bind_some, List.length_nil, List.nil_append]
        rw [if_pos (by omega)]
      · refine ev_pos (by omega) ?_
        rw [hd]
        exact ih

theorem block_cut_ev (id : Int) (l : List S33) (m : Int) (hl : l.length < 4398046511104) : Ev (fun k => block_Cut.f k id l m) (cutF id (mx m 1).toNat l.length l) := by
  have h := cut_ev id (mx m 1) (by have := @mx_le m 1; omega) l.length l [] (Nat.le_refl _) (by simpa using hl)
  rw [List.nil_append] at h
  exact h

theorem cutF_join (id : Int) (m : Nat) (hm : 0 < m) : ∀ (n : Nat) (l : List S33), l.length ≤ n → (cutF id m n l).flatMap (·.f1) = l
  | 0, l, h => by
    obtain rfl : l = [] := List.eq_nil_of_length_eq_zero (by omega)
    simp [cutF]
  | n + 1, l, h => by
    unfold cutF
    by_cases h0 : l.length = 0
    · obtain rfl : l = [] := List.eq_nil_of_length_eq_zero h0
      simp
    · rw [if_neg h0, List.flatMap_cons, cutF_join id m hm n (l.drop m) (by simp; omega)]
      exact List.take_append_drop m l

/-- Each chunk has the id and points, at most m; all but the last one m. -/
theorem cutF_each (id : Int) (m : Nat) (hm : 0 < m) : ∀ (n : Nat) (l : List S33) (i : Nat) (c : S27), l.length ≤ n → (cutF id m n l)[i]? = some c →
    c.f0 = id ∧ 0 < c.f1.length ∧ c.f1.length ≤ m ∧ (i + 1 < (cutF id m n l).length → c.f1.length = m)
  | 0, l, i, c, h, hc => by simp [cutF] at hc
  | n + 1, l, i, c, h, hc => by
    unfold cutF at hc ⊢
    by_cases h0 : l.length = 0
    · rw [if_pos h0] at hc; simp at hc
    · rw [if_neg h0] at hc ⊢
      cases i with
      | zero =>
        simp at hc
        subst hc
        refine ⟨rfl, by simp; omega, by simp; omega, fun hi => ?_⟩
        simp only [List.length_cons] at hi
        have := cutF_length id m hm n (l.drop m) (by simp; omega)
        simp at this ⊢
        omega
      | succ i =>
        simp at hc
        have := cutF_each id m hm n (l.drop m) i c (by simp; omega) hc
        refine ⟨this.1, this.2.1, this.2.2.1, fun hi => this.2.2.2 (by simpa using hi)⟩

theorem same_refl_ev (l : List S33) (hl : l.length < 9223372036854775807) : Ev (fun k => marigraphref04_Same.f k l l) true := by
  have go : ∀ (d i : Nat), l.length - i = d → i ≤ l.length → Ev (fun k => marigraphref04_Same.l0 k l l (i : Int)) true := by
    intro d
    induction d with
    | zero =>
      intro i hd hi
      exact ev_stop fun k => by rw [marigraphref04_Same.l0, if_neg (by omega)]
    | succ d ih =>
      intro i hd hi
      refine ev_succ (fun k => by rw [marigraphref04_Same.l0]) ?_
      refine ev_pos (by omega) (ev_pos (by omega) (ev_pos (by omega) (ev_neg (by simp) ?_)))
      rw [w64 (by omega) (by omega)]
      exact ih (i + 1) (by omega) (by omega)
  unfold marigraphref04_Same.f
  exact ev_pos rfl (go _ 0 rfl (Nat.zero_le _))
end Go.Proofs.Ytckcplmjnpgegaa.Pure
