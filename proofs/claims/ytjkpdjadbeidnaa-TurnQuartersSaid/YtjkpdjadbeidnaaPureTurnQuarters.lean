/- TurnQuarters as a plain statement: whatever the time and the day, the quarter is the reference's, and a day later the same. -/
import Derived.Test.YtjkpdjadbeidnaaT7
import Derived.Test.YtjkpdjadbeidnaaPTu
namespace Go.Proofs.Ytjkpdjadbeidnaa.Pure
open Go.RowKit Go.Proofs.Ytjkpdjadbeidnaa.T Go.Proofs.Ytjkpdjadbeidnaa.Pl Go.Proofs.Ytjkpdjadbeidnaa.Flo Go.Proofs.YtjkpdjadbeidnaaW.PrintWords Go.Proofs.YtjkpdjadbeidnaaW.PrintLast Go.Proofs.YtjkpdjadbeidnaaW.PrintMore

theorem TurnQuarters : marigraphlaw13_TurnQuarters.Pure := by
  intro a0 a1 h0 h1
  have w0 := wf64 h0
  have w1 := wf64 h1
  refine Ev.rounds ?_
  unfold marigraphlaw13_TurnQuarters.f
  by_cases hd : okDay a1
  · refine ev_const (quarter_ok hd) (ev_bind (ref_quarter_ok hd) (ev_const (quarter_ok hd) (ev_bind shown_ev (ev_pos rfl (ev_pos rfl (ev_pos (by simp) (ev_pos rfl ?_)))))))
    by_cases hb : a0 > 4611686018427387904
    · exact ev_pos hb (Ev.now _)
    · refine ev_neg hb (ev_pos rfl (ev_eq (Ev.now _) ?_))
      have hw : wrap64 (a0 + a1) = a0 + a1 := w64 (by unfold okDay at hd; omega) (by unfold okDay at hd; omega)
      rw [hw]
      unfold qd
      rw [Int.add_emod_right]
      simp
  · refine ev_const (quarter_no hd) (ev_bind (ref_quarter_no hd) (ev_const (quarter_no hd) (ev_bind shown_ev (ev_pos rfl (ev_pos rfl (ev_pos (by simp) (ev_neg (by simp) (Ev.now _))))))))
end Go.Proofs.Ytjkpdjadbeidnaa.Pure
