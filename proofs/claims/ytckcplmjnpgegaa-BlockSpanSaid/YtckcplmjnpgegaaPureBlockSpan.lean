/- BlockSpan as a plain statement: the times that chunks have do not hang on how the points are cut, are there if there are points, and hold each point's time. -/
import Derived.Test.YtckcplmjnpgegaaXStBlockSpan
import Derived.Test.YtckcplmjnpgegaaPBs
namespace Go.Proofs.Ytckcplmjnpgegaa.Pure
open Go.RowKit Go.Proofs.Ytckcplmjnpgegaa.X Go.Proofs.Ytckcplmjnpgegaa.Pl Go.Proofs.YtckcplmjnpgegaaW.PrintWords Go.Proofs.YtckcplmjnpgegaaW.PrintLast Go.Proofs.YtckcplmjnpgegaaW.PrintMore

theorem span_loop (f t : Int) (x : List S33) (hx : x.length < 9223372036854775807) (hin : ∀ p ∈ x, f ≤ p.f0 ∧ p.f0 ≤ t) (d : Nat) : ∀ i : Nat, x.length - i = d → i ≤ x.length →
    Ev (fun k => marigraphlaw09_BlockSpan.l0 k true f t x (x.length : Int) (i : Int)) true := by
  induction d with
  | zero =>
    intro i hd hi
    exact ev_stop fun k => by rw [marigraphlaw09_BlockSpan.l0, if_neg (by omega)]
  | succ d ih =>
    intro i hd hi
    have hlt : i < x.length := by omega
    have hw : wrap64 ((i : Int) + 1) = ((i + 1 : Nat) : Int) := by rw [w64 (by omega) (by omega)]; omega
    have hp := hin _ (List.getElem_mem hlt)
    refine ev_succ (fun k => by rw [marigraphlaw09_BlockSpan.l0]) ?_
    refine ev_pos (by omega) (ev_pos (by omega) (ev_pos (by omega) ?_))
    rw [rd33 x i hlt, hw]
    exact ev_neg (by omega) (ev_neg (by omega) (ih (i + 1) (by omega) (by omega)))

theorem span_cut (id : Int) (x : List S33) (a : Int) (hx : x.length < 4398046511104) : Ev (fun k => block_Span.f k (cutF id (mx a 1).toNat x.length x)) (spanL (0, 0, false) x) := by
  have hm := @mx_le a 1
  have hm0 : 0 < (mx a 1).toNat := by omega
  have hl := cutF_length id (mx a 1).toNat hm0 x.length x (Nat.le_refl _)
  have hj := cutF_join id (mx a 1).toNat hm0 x.length x (Nat.le_refl _)
  have h := span_ev (cutF id (mx a 1).toNat x.length x) (by omega) (fun c hc => by
    have : c.f1.length ≤ ((cutF id (mx a 1).toNat x.length x).flatMap (·.f1)).length := by
      obtain ⟨s, t, e⟩ := List.append_of_mem hc
      rw [e, List.flatMap_append, List.flatMap_cons]
      simp; omega
    rw [hj] at this
    omega)
  rw [hj] at h
  exact h

theorem BlockSpan : marigraphlaw09_BlockSpan.Pure := by
  intro l0 a1 a2 _ _ _ _
  refine Ev.rounds ?_
  unfold marigraphlaw09_BlockSpan.f
  refine ev_bind shown_ev ?_
  have hmn := @mn_le (l0.length : Int) 1100
  refine ev_pos (by rcases hmn.2.2 with e | e <;> omega) (ev_pos (by omega) (ev_some ?_))
  generalize hx : l0.take (mn (l0.length : Int) 1100).toNat = x
  have hxl : x.length ≤ 1100 := by
    rw [← hx, List.length_take]
    omega
  clear hx hmn
  refine ev_bind (block_cut_ev 1 x a1 (by omega)) (ev_bind (span_cut 1 x a1 (by omega)) (ev_bind (block_cut_ev 2 x a2 (by omega)) (ev_bind (span_cut 2 x a2 (by omega)) ?_)))
  obtain ⟨h1, h2, h3⟩ := spanL_within x (0, 0, false)
  generalize spanL (0, 0, false) x = s at *
  have e : (s.2.2 != decide ((x.length : Int) > 0)) = false := by
    rw [h1]
    simp
  refine ev_pos rfl (ev_pos rfl (ev_neg (by simp) ?_))
  rw [e]
  refine ev_succ (fun k => by rw [marigraphlaw09_BlockSpan.j0]) ?_
  exact ev_neg (by simp) (span_loop s.1 s.2.1 x (by omega) h3 _ 0 rfl (Nat.zero_le _))
end Go.Proofs.Ytckcplmjnpgegaa.Pure
