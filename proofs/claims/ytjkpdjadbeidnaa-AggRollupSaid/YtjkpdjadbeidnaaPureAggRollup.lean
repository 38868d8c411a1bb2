/- AggRollup as a plain statement: whatever the points, the step and what is told, the rollup is the reference's. -/
import Derived.Test.YtjkpdjadbeidnaaXStAggRollup
import Derived.Test.YtjkpdjadbeidnaaPAs
namespace Go.Proofs.Ytjkpdjadbeidnaa.Pure
open Go.RowKit Go.Proofs.Ytjkpdjadbeidnaa.X Go.Proofs.Ytjkpdjadbeidnaa.Pl Go.Proofs.YtjkpdjadbeidnaaW.PrintWords Go.Proofs.YtjkpdjadbeidnaaW.PrintLast Go.Proofs.YtjkpdjadbeidnaaW.PrintMore

theorem AggRollup : marigraphlaw12_AggRollup.Pure := by
  intro l step what _ hwf hst hwh
  have hw := wfu8 hwh
  refine Ev.rounds ?_
  unfold marigraphlaw12_AggRollup.f
  obtain ⟨x, hx, hxl, hm⟩ := a_few l
  have hwx : wfP x := fun p hp => wfP_of hwf p (hm p hp)
  have hle := rollR_length x step what
  refine ev_const hx (ev_bind (rollup_ev x step what hw.1 (by omega)) (ev_const hx (ev_bind (ref_rollup_ev x step what hw.1 hwx (by omega)) (ev_bind a_shown_ev (ev_pos rfl (ev_bind (a_same _ (by omega)) (ev_pos rfl (ev_eq (Ev.now _) ?_))))))))
  simp
end Go.Proofs.Ytjkpdjadbeidnaa.Pure
