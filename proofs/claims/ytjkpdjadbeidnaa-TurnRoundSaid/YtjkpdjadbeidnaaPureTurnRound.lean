/- TurnRound as a plain statement: turned by four quarters a number is as it was, by some and others as by both, by two its opposite. -/
import Derived.Test.YtjkpdjadbeidnaaT9
import Derived.Test.YtjkpdjadbeidnaaPTu
namespace Go.Proofs.Ytjkpdjadbeidnaa.Pure
open Go.RowKit Go.Proofs.Ytjkpdjadbeidnaa.T Go.Proofs.Ytjkpdjadbeidnaa.Pl Go.Proofs.Ytjkpdjadbeidnaa.Flo Go.Proofs.YtjkpdjadbeidnaaW.PrintWords Go.Proofs.YtjkpdjadbeidnaaW.PrintLast Go.Proofs.YtjkpdjadbeidnaaW.PrintMore

theorem rot_rot (x y a b : Int) : rot (y % 4) (rot (x % 4) a b).1 (rot (x % 4) a b).2 = rot ((x + y) % 4) a b := by
  have hx : x % 4 = 0 ∨ x % 4 = 1 ∨ x % 4 = 2 ∨ x % 4 = 3 := by omega
  have hy : y % 4 = 0 ∨ y % 4 = 1 ∨ y % 4 = 2 ∨ y % 4 = 3 := by omega
  have hs : (x + y) % 4 = (x % 4 + y % 4) % 4 := by omega
  rw [hs]
  rcases hx with e | e | e | e <;> rcases hy with f | f | f | f <;> rw [e, f] <;> simp [rot]

theorem TurnRound : marigraphlaw13_TurnRound.Pure := by
  intro a0 a1 a2 a3 _ _ h2 h3
  have w2 : -2147483648 ≤ a2 ∧ a2 ≤ 2147483647 := by simpa [Lit.wf, IntKind.min, IntKind.max, IntKind.signed, IntKind.bits] using h2
  have w3 : -2147483648 ≤ a3 ∧ a3 ≤ 2147483647 := by simpa [Lit.wf, IntKind.min, IntKind.max, IntKind.signed, IntKind.bits] using h3
  have r0 := @tmod_range a0 1125899906842624 (by omega)
  have r1 := @tmod_range a1 1125899906842624 (by omega)
  refine Ev.rounds ?_
  unfold marigraphlaw13_TurnRound.f
  generalize Int.tmod a0 1125899906842624 = a at *
  generalize Int.tmod a1 1125899906842624 = b at *
  have hs : small (a, b) := ⟨by simp; omega, by simp; omega⟩
  rw [w64 (x := a2) (by omega) (by omega), w64 (x := a3) (by omega) (by omega), w64 (x := a2 + a3) (by omega) (by omega)]
  refine ev_const (of_is hs) (ev_bind shown_ev (ev_pos rfl (ev_const (by_is hs) (ev_pos ?_ (ev_const (by_is hs) (ev_const (by_is (rot_small hs)) (ev_const (by_is hs) (ev_pos ?_ (ev_const (by_is hs) (ev_eq (Ev.now _) ?_))))))))))
  · rw [show rot (4 % 4) (a, b).1 (a, b).2 = (a, b) from rfl, ceq_C hs hs]
    simp
  · rw [rot_rot, ceq_C (rot_small hs) (rot_small hs)]
    simp
  · have e : rot (2 % 4) (a, b).1 (a, b).2 = (-a, -b) := rfl
    rw [e]
    show ceq (wordI (-a)) (wordI (-b)) (fneg (wordI a)) (fneg (wordI b)) = true
    unfold ceq
    rw [feq_is (isP_word (n := -a) (by simpa using hs.1)).is (fneg_is hs.1), feq_is (isP_word (n := -b) (by simpa using hs.2)).is (fneg_is hs.2)]
    simp
end Go.Proofs.Ytjkpdjadbeidnaa.Pure
