/- BitsAt as a plain statement: so many bits from a place on, and whether all behind one are 0, are the reference's. -/
import Derived.Test.YtinadbbncambdaaX11
import Derived.Test.YtinadbbncambdaaPBi
namespace Go.Proofs.Ytinadbbncambdaa.Pure
open Go.RowKit Go.Proofs.Ytinadbbncambdaa.X Go.Proofs.Ytinadbbncambdaa.Pl Go.Proofs.YtinadbbncambdaaW.PrintWords Go.Proofs.YtinadbbncambdaaW.PrintLast Go.Proofs.YtinadbbncambdaaW.PrintMore

theorem BitsAt : marigraphlaw02_BitsAt.Pure := by
  intro l p w _ _ hl _ hw
  refine Ev.rounds ?_
  have hw' := wf64 hw
  have hmn := @mn_le (l.length : Int) 100
  have hx : Byt (l.take (mn (l.length : Int) 100).toNat) := fun y hy => byt_wf hl y (List.mem_of_mem_take hy)
  have hxl : (l.take (mn (l.length : Int) 100).toNat).length ≤ 100 := by rw [List.length_take]; omega
  unfold marigraphlaw02_BitsAt.f
  generalize l.take (mn (l.length : Int) 100).toNat = x at hx hxl ⊢
  refine ev_pos (by omega) (ev_pos (by omega) (ev_bind (at_ev hx (by omega) p w hw') (ev_bind (ref_at_ev hx (by omega) p w hw') (ev_const (a := true) rfl (ev_pos rfl (ev_pos rfl (ev_pos rfl (ev_bind (clear_ev hx (by omega) p) (ev_bind (ref_clear_ev hx (by omega) p) (ev_eq (Ev.now _) ?_))))))))))
  simp
end Go.Proofs.Ytinadbbncambdaa.Pure
