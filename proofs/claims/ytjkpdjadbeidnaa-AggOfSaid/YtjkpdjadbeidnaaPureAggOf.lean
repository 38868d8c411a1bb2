/- AggOf as a plain statement: what comes of points, and of two such, is the reference's. -/
import Derived.Test.YtjkpdjadbeidnaaXStAggOf
import Derived.Test.YtjkpdjadbeidnaaPAh
namespace Go.Proofs.Ytjkpdjadbeidnaa.Pure
open Go.RowKit Go.Proofs.Ytjkpdjadbeidnaa.X Go.Proofs.Ytjkpdjadbeidnaa.Pl Go.Proofs.YtjkpdjadbeidnaaW.PrintWords Go.Proofs.YtjkpdjadbeidnaaW.PrintLast Go.Proofs.YtjkpdjadbeidnaaW.PrintMore

theorem AggOf : marigraphlaw12_AggOf.Pure := by
  intro l a0 a1 a2 a3 a4 a5 b0 b1 b2 b3 b4 b5 _ hwf _ _ _ _ _ _ _ _ _ _ _ _
  refine Ev.rounds ?_
  unfold marigraphlaw12_AggOf.f
  obtain ⟨x, hx, hxl, hm⟩ := a_few l
  have hw : wfP x := fun p hp => wfP_of hwf p (hm p hp)
  refine ev_bind a_shown_ev (ev_pos rfl (ev_const hx (ev_bind (of_ev x (by omega)) (ev_const hx (ev_bind (ref_of_ev x hw (by omega)) (ev_pos (by simp) (ev_const (join_is ⟨a0, a1, a2, a3, a4, a5⟩ ⟨b0, b1, b2, b3, b4, b5⟩) (ev_const (ref_join_is ⟨a0, a1, a2, a3, a4, a5⟩ ⟨b0, b1, b2, b3, b4, b5⟩) (ev_eq (Ev.now _) ?_)))))))))
  simp
end Go.Proofs.Ytjkpdjadbeidnaa.Pure
