/- The reference's Seconds, Firsts and Ints. -/
import Derived.Test.YthkpnnbjcendcaaPfo
import Derived.Test.YthkpnnbjcendcaaPse
import Derived.Test.YthkpnnbjcendcaaX26
import Derived.Test.YthkpnnbjcendcaaX44
import Derived.Test.YthkpnnbjcendcaaX40
set_option linter.unusedVariables false
open Go.RowKit Go.Proofs.Ythkpnnbjcendcaa.X Go.Proofs.Ythkpnnbjcendcaa.Pl Go.Proofs.YthkpnnbjcendcaaW.PrintWords Go.Proofs.YthkpnnbjcendcaaW.PrintLast Go.Proofs.YthkpnnbjcendcaaW.PrintMore
namespace Go.Proofs.Ythkpnnbjcendcaa.Pure
theorem less_f (a b : Int) : marigraphref04_less.f a b = some (wrap64 (a - b)) := by
  unfold marigraphref04_less.f
  rw [u64_wrap, u64_wrap, u64_wrap]
  congr 1
  unfold wrap64
  omega
theorem more_f (a b : Int) : marigraphref04_more.f a b = some (wrap64 (a + b)) := by
  unfold marigraphref04_more.f
  rw [u64_wrap, u64_wrap, u64_wrap]
  congr 1
  unfold wrap64
  omega
theorem drop_rd {l : List Int} {i : Nat} (h : i < l.length) : l.drop i = rd l (i : Int) :: l.drop (i + 1) := by
  rw [List.drop_eq_getElem_cons h]
  unfold rd
  rw [Int.toNat_natCast, getD_lt _ _ _ h]
theorem ref_secs_from (l : List Int) (hl : l.length ≤ 1000000) (d : Nat) : ∀ (j : Nat) (a b : Int) (O : List Int), l.length - j = d → j ≤ l.length → O.length = j →
    Ev (fun k => marigraphref04_Seconds.l0 k l O a b (j : Int)) (O ++ secs a b (l.drop j)) := by
  induction d with
  | zero =>
    intro j a b O hd hj hO
    refine ev_succ (fun k => by rw [marigraphref04_Seconds.l0]) (ev_neg (by omega) (ev_eq (Ev.now _) ?_))
    rw [List.drop_of_length_le (by omega), show secs a b [] = [] from rfl, List.append_nil]
  | succ d ih =>
    intro j a b O hd hj hO
    have hnx : wrap64 ((j : Int) + 1) = ((j + 1 : Nat) : Int) := by rw [w64 (by omega) (by omega)]; simp
    refine ev_succ (fun k => by rw [marigraphref04_Seconds.l0]) (ev_pos (by omega) (ev_pos (by omega) ?_))
    refine ev_const (less_f _ _) (ev_const (less_f _ _) (ev_pos (by omega) ?_))
    rw [hnx]
    refine ev_eq (ih (j + 1) _ _ _ (by omega) (by omega) (by rw [List.length_append, hO]; rfl)) ?_
    rw [drop_rd (show j < l.length by omega), secs, List.append_assoc]
    rfl
theorem ref_secs_ev (l : List Int) (hl : l.length ≤ 1000000) : Ev (fun k => marigraphref04_Seconds.f k l) (secs 0 0 l) := by
  unfold marigraphref04_Seconds.f
  exact ref_secs_from l hl l.length 0 0 0 [] (by omega) (by omega) rfl
theorem ref_frs_from (l : List Int) (hl : l.length ≤ 1000000) (d : Nat) : ∀ (j : Nat) (a b : Int) (O : List Int), l.length - j = d → j ≤ l.length → O.length = j →
    Ev (fun k => marigraphref04_Firsts.l0 k l O a b (j : Int)) (O ++ frs a b (l.drop j)) := by
  induction d with
  | zero =>
    intro j a b O hd hj hO
    refine ev_succ (fun k => by rw [marigraphref04_Firsts.l0]) (ev_neg (by omega) (ev_eq (Ev.now _) ?_))
    rw [List.drop_of_length_le (by omega), show frs a b [] = [] from rfl, List.append_nil]
  | succ d ih =>
    intro j a b O hd hj hO
    have hnx : wrap64 ((j : Int) + 1) = ((j + 1 : Nat) : Int) := by rw [w64 (by omega) (by omega)]; simp
    refine ev_succ (fun k => by rw [marigraphref04_Firsts.l0]) (ev_pos (by omega) (ev_pos (by omega) ?_))
    refine ev_const (more_f _ _) (ev_const (more_f _ _) (ev_pos (by omega) ?_))
    rw [hnx]
    refine ev_eq (ih (j + 1) _ _ _ (by omega) (by omega) (by rw [List.length_append, hO]; rfl)) ?_
    rw [drop_rd (show j < l.length by omega), frs, List.append_assoc]
    rfl
theorem ref_frs_ev (l : List Int) (hl : l.length ≤ 1000000) : Ev (fun k => marigraphref04_Firsts.f k l) (frs 0 0 l) := by
  unfold marigraphref04_Firsts.f
  exact ref_frs_from l hl l.length 0 0 0 [] (by omega) (by omega) rfl
theorem ints_from (l : List Int) (hl : l.length ≤ 1000000) (d : Nat) : ∀ j : Nat, l.length - j = d → Ev (fun k => marigraphref04_Ints.l0 k l l (j : Int)) true := by
  induction d with
  | zero => intro j hd; exact ev_succ (fun k => by rw [marigraphref04_Ints.l0]) (ev_neg (by omega) (Ev.now _))
  | succ d ih =>
    intro j hd
    have hnx : wrap64 ((j : Int) + 1) = ((j + 1 : Nat) : Int) := by rw [w64 (by omega) (by omega)]; simp
    refine ev_succ (fun k => by rw [marigraphref04_Ints.l0]) (ev_pos (by omega) (ev_pos (by omega) (ev_pos (by omega) (ev_pos rfl ?_))))
    rw [hnx]
    exact ih (j + 1) (by omega)
theorem ints_ev (l : List Int) (hl : l.length ≤ 1000000) : Ev (fun k => marigraphref04_Ints.f k l l) true := by
  unfold marigraphref04_Ints.f
  exact ev_pos rfl (ints_from l hl l.length 0 (by omega))
/-- What comes of numbers to all of which the same is added. -/
theorem shift_secs (l : List Int) (by_ : Int) (hl : ∀ x ∈ l, fits64 x) (hb : fits64 by_) (j : Nat) (h : j < l.length) :
    (secs 0 0 (l.map fun x => wrap64 (x + by_))).getD j 0 = if j = 0 then wrap64 ((secs 0 0 l).getD j 0 + by_) else if j = 1 then wrap64 ((secs 0 0 l).getD j 0 - by_) else (secs 0 0 l).getD j 0 := by
  have hm : ∀ i, i < l.length → (l.map fun x => wrap64 (x + by_)).getD i 0 = wrap64 (l.getD i 0 + by_) := by
    intro i hi
    rw [List.getD_eq_getElem?_getD, List.getD_eq_getElem?_getD]
    simp [hi]
  have hf : ∀ i, i < l.length → fits64 (l.getD i 0) := by
    intro i hi
    rw [getD_lt _ _ _ hi]
    exact hl _ (List.getElem_mem hi)
  unfold fits64 at hb hf
  rw [secs_get _ _ _ _ (by rw [List.length_map]; exact h), secs_get _ _ _ _ h]
  match j with
  | 0 =>
    have := hf 0 h
    rw [if_pos rfl, if_pos rfl, if_pos rfl, hm 0 h]
    unfold wrap64
    omega
  | 1 =>
    have h0 := hf 0 (by omega)
    have h1 := hf 1 h
    rw [if_neg (by omega), if_pos rfl, if_neg (by omega), if_pos rfl, if_neg (by omega), if_pos rfl, hm 1 h, hm 0 (by omega)]
    unfold wrap64
    omega
  | (j + 2) =>
    have h0 := hf j (by omega)
    have h1 := hf (j + 1) (by omega)
    have h2 := hf (j + 2) h
    rw [if_neg (by omega), if_neg (by omega), if_neg (by omega), if_neg (by omega), if_neg (by omega), if_neg (by omega), show j + 2 - 1 = j + 1 by omega, show j + 2 - 2 = j by omega, hm _ h, hm _ (by omega), hm _ (by omega)]
    unfold wrap64
    omega
end Go.Proofs.Ythkpnnbjcendcaa.Pure
