/- TurnBy as a plain statement: a number of whole parts, turned, is the reference's, and so are its whole parts. -/
import Derived.Test.YtjkpdjadbeidnaaT16
import Derived.Test.YtjkpdjadbeidnaaPTv
namespace Go.Proofs.Ytjkpdjadbeidnaa.Pure
open Go.RowKit Go.Proofs.Ytjkpdjadbeidnaa.T Go.Proofs.Ytjkpdjadbeidnaa.Pl Go.Proofs.Ytjkpdjadbeidnaa.Flo Go.Proofs.YtjkpdjadbeidnaaW.PrintWords Go.Proofs.YtjkpdjadbeidnaaW.PrintLast Go.Proofs.YtjkpdjadbeidnaaW.PrintMore

theorem TurnBy : marigraphlaw13_TurnBy.Pure := by
  intro a0 a1 a2 _ _ _
  have r0 := @tmod_range a0 1125899906842624 (by omega)
  have r1 := @tmod_range a1 1125899906842624 (by omega)
  refine Ev.rounds ?_
  unfold marigraphlaw13_TurnBy.f
  generalize Int.tmod a0 1125899906842624 = a at *
  generalize Int.tmod a1 1125899906842624 = b at *
  have hs : small (a, b) := ⟨by simp; omega, by simp; omega⟩
  have hr : (rot (a2 % 4) a b).1.natAbs ≤ 4503599627370496 ∧ (rot (a2 % 4) a b).2.natAbs ≤ 4503599627370496 := by
    unfold rot; split <;> (try split) <;> (try split) <;> simp <;> omega
  have hrs : small (rot (a2 % 4) a b) := ⟨by omega, by omega⟩
  refine ev_const (of_is hs) (ev_const (by_is hs) (ev_bind (ref_by_ev a2 a b (by omega) (by omega)) (ev_const (Whole_is hr.1 hr.2) (ev_bind shown_ev (ev_pos rfl (ev_const (of_is hrs) (ev_pos ?_ (ev_pos rfl (ev_eq (Ev.now _) ?_)))))))))
  · exact (ceq_C hrs hrs).trans (by simp)
  · simp
end Go.Proofs.Ytjkpdjadbeidnaa.Pure
