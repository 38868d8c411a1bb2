/- Points: whether they rise, and their marks. -/
import Derived.Test.YthkpnnbjcendcaaPs
import Derived.Test.YthkpnnbjcendcaaX16
import Derived.Test.YthkpnnbjcendcaaX24
set_option linter.unusedVariables false
open Go.RowKit Go.Proofs.Ythkpnnbjcendcaa.X Go.Proofs.Ythkpnnbjcendcaa.Pl Go.Proofs.YthkpnnbjcendcaaW.PrintWords Go.Proofs.YthkpnnbjcendcaaW.PrintLast Go.Proofs.YthkpnnbjcendcaaW.PrintMore
namespace Go.Proofs.Ythkpnnbjcendcaa.Pure
/-- Do they rise? -/
def rightB (l : List S52) : Bool := decide (∀ i : Nat, i < l.length → 0 < i → (rd_T52 l ((i - 1 : Nat) : Int)).f0 < (rd_T52 l (i : Int)).f0)
theorem right_from (l : List S52) (hl : l.length < 4611686018427387904) (d : Nat) : ∀ j : Nat, l.length - j = d → j ≤ l.length → (∀ i : Nat, i < j → 0 < i → (rd_T52 l ((i - 1 : Nat) : Int)).f0 < (rd_T52 l (i : Int)).f0) →
    Ev (fun k => steps_Right.l0 k l (l.length : Int) (j : Int)) (rightB l) := by
  induction d with
  | zero =>
    intro j hd hj h
    refine ev_succ (fun k => by rw [steps_Right.l0]) (ev_neg (by omega) (ev_eq (Ev.now _) ?_))
    unfold rightB
    rw [eq_comm, decide_eq_true_iff]
    intro i hi
    exact h i (by omega)
  | succ d ih =>
    intro j hd hj h
    have hnx : wrap64 ((j : Int) + 1) = ((j + 1 : Nat) : Int) := by rw [w64 (by omega) (by omega)]; simp
    refine ev_succ (fun k => by rw [steps_Right.l0]) (ev_pos (by omega) ?_)
    rw [hnx]
    by_cases h0 : (j : Int) > 0
    · have hpv : wrap64 ((j : Int) - 1) = ((j - 1 : Nat) : Int) := by rw [w64 (by omega) (by omega)]; omega
      rw [hpv]
      refine ev_pos h0 (ev_pos (by omega) (ev_pos (by omega) (ev_pos (by omega) (ev_pos (by omega) ?_))))
      by_cases hc : (rd_T52 l ((j - 1 : Nat) : Int)).f0 ≥ (rd_T52 l (j : Int)).f0
      · refine ev_pos hc (ev_eq (Ev.now _) ?_)
        unfold rightB
        rw [eq_comm, decide_eq_false_iff_not]
        intro hall
        have := hall j (by omega) (by omega)
        omega
      · refine ev_neg hc (ih (j + 1) (by omega) (by omega) ?_)
        intro i hi hi0
        by_cases hij : i = j
        · subst hij; omega
        · exact h i (by omega) hi0
    · refine ev_neg h0 (ih (j + 1) (by omega) (by omega) ?_)
      intro i hi hi0
      omega
theorem right_ev (l : List S52) (hl : l.length < 4611686018427387904) : Ev (fun k => steps_Right.f k l) (rightB l) := by
  unfold steps_Right.f
  exact right_from l hl l.length 0 (by omega) (by omega) (fun i hi => absurd hi (by omega))
theorem ref_right_from (l : List S52) (hl : l.length < 4611686018427387904) (d : Nat) : ∀ j : Nat, l.length - j = d → 1 ≤ j → (∀ i : Nat, i < j → i < l.length → 0 < i → (rd_T52 l ((i - 1 : Nat) : Int)).f0 < (rd_T52 l (i : Int)).f0) →
    Ev (fun k => marigraphref04_Right.l0 k l (j : Int)) (rightB l) := by
  induction d with
  | zero =>
    intro j hd hj h
    refine ev_succ (fun k => by rw [marigraphref04_Right.l0]) (ev_neg (by omega) (ev_eq (Ev.now _) ?_))
    unfold rightB
    rw [eq_comm, decide_eq_true_iff]
    intro i hi
    exact h i (by omega) hi
  | succ d ih =>
    intro j hd hj h
    have hnx : wrap64 ((j : Int) + 1) = ((j + 1 : Nat) : Int) := by rw [w64 (by omega) (by omega)]; simp
    have hpv : wrap64 ((j : Int) - 1) = ((j - 1 : Nat) : Int) := by rw [w64 (by omega) (by omega)]; omega
    refine ev_succ (fun k => by rw [marigraphref04_Right.l0]) (ev_pos (by omega) ?_)
    rw [hnx, hpv]
    refine ev_pos (by omega) (ev_pos (by omega) (ev_pos (by omega) ?_))
    by_cases hc : (rd_T52 l (j : Int)).f0 ≤ (rd_T52 l ((j - 1 : Nat) : Int)).f0
    · refine ev_pos hc (ev_eq (Ev.now _) ?_)
      unfold rightB
      rw [eq_comm, decide_eq_false_iff_not]
      intro hall
      have := hall j (by omega) (by omega)
      omega
    · refine ev_neg hc (ih (j + 1) (by omega) (by omega) ?_)
      intro i hi hil hi0
      by_cases hij : i = j
      · subst hij; omega
      · exact h i (by omega) hil hi0
theorem ref_right_ev (l : List S52) (hl : l.length < 4611686018427387904) : Ev (fun k => marigraphref04_Right.f k l) (rightB l) := by
  unfold marigraphref04_Right.f
  exact ref_right_from l hl (l.length - 1) 1 rfl (by omega) (fun i hi _ h0 => by omega)
/-- The bits of points, from pairs on. -/
def marksP (a b c d : Int) (l : List S52) : List Bool := marks (secs a b (l.map (·.f0))) (secs c d (l.map (·.f1)))
theorem marksP_cons (a b c d : Int) (p : S52) (l : List S52) :
    marksP a b c d (p :: l) = markB (wrap64 (wrap64 (p.f0 - a) - b)) ++ markB (wrap64 (wrap64 (p.f1 - c) - d)) ++ marksP p.f0 (wrap64 (p.f0 - a)) p.f1 (wrap64 (p.f1 - c)) l := rfl
theorem marksP_nil (a b c d : Int) : marksP a b c d [] = [] := rfl
theorem marksP_length (l : List S52) : ∀ a b c d, (marksP a b c d l).length ≤ 136 * l.length := by
  induction l with
  | nil => intro a b c d; simp [marksP_nil]
  | cons p l ih =>
    intro a b c d
    rw [marksP_cons, List.length_append, List.length_append]
    have h1 := markB_length (wrap64 (wrap64 (p.f0 - a) - b))
    have h2 := markB_length (wrap64 (wrap64 (p.f1 - c) - d))
    have h3 := ih p.f0 (wrap64 (p.f0 - a)) p.f1 (wrap64 (p.f1 - c))
    simp only [List.length_cons]
    omega
/-- What points come to: their bytes and an error. -/
def putB (l : List S52) : List Int := varint l.length ++ pack (marksP 0 0 0 0 l)
def putR (l : List S52) : List Int × Int := if l.length > 1024 then ([], 3) else if rightB l = false then ([], 1) else (putB l, 0)
def fitP (l : List S52) : Prop := ∀ y ∈ l, fits64 y.f0 ∧ fits64 y.f1
theorem rd52_mem {l : List S52} {i : Nat} (h : i < l.length) : rd_T52 l (i : Int) ∈ l := by
  unfold rd_T52
  rw [Int.toNat_natCast, getD_lt _ _ _ h]
  exact List.getElem_mem h
theorem drop52 {l : List S52} {i : Nat} (h : i < l.length) : l.drop i = rd_T52 l (i : Int) :: l.drop (i + 1) := by
  rw [List.drop_eq_getElem_cons h]
  unfold rd_T52
  rw [Int.toNat_natCast, getD_lt _ _ _ h]
end Go.Proofs.Ythkpnnbjcendcaa.Pure
