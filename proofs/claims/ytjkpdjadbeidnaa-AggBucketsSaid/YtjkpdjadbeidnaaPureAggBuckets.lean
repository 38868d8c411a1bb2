/- AggBuckets as a plain statement: whatever the points and the span, the buckets are the reference's. -/
import Derived.Test.YtjkpdjadbeidnaaXStAggBuckets
import Derived.Test.YtjkpdjadbeidnaaPAb
namespace Go.Proofs.Ytjkpdjadbeidnaa.Pure
open Go.RowKit Go.Proofs.Ytjkpdjadbeidnaa.X Go.Proofs.Ytjkpdjadbeidnaa.Pl Go.Proofs.YtjkpdjadbeidnaaW.PrintWords Go.Proofs.YtjkpdjadbeidnaaW.PrintLast Go.Proofs.YtjkpdjadbeidnaaW.PrintMore

theorem AggBuckets : marigraphlaw12_AggBuckets.Pure := by
  intro l a b step _ hwf _ _ _
  refine Ev.rounds ?_
  unfold marigraphlaw12_AggBuckets.f
  obtain ⟨x, hx, hxl, hm⟩ := a_few l
  have hwx : wfP x := fun p hp => wfP_of hwf p (hm p hp)
  have hle := bucR_length x a b step
  refine ev_const hx (ev_bind (buckets_ev x a b step (by omega)) (ev_const hx (ev_bind (ref_buckets_ev x a b step hwx (by omega)) (ev_bind a_shown_ev (ev_pos rfl (ev_bind (a_same2 _ (by omega)) (ev_pos rfl (ev_eq (Ev.now _) ?_))))))))
  simp
end Go.Proofs.Ytjkpdjadbeidnaa.Pure
