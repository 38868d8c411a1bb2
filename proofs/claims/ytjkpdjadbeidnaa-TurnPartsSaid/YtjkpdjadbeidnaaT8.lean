-- By xprint.py, out of the translation's own print. Lean checks it.
import Derived.Test.YtjkpdjadbeidnaaT0
namespace Go.Proofs.Ytjkpdjadbeidnaa.T
open Go.RowKit Go.Proofs.YtjkpdjadbeidnaaW.PrintWords Go.Proofs.YtjkpdjadbeidnaaW.PrintLast Go.Proofs.YtjkpdjadbeidnaaW.PrintMore Go.Proofs.Ytjkpdjadbeidnaa.Flo
attribute [local go_sem high] x_neg x_cneg x_add x_cadd x_eq x_ne x_ge x_le x_ceq x_cne x_ofi x_toi
attribute [local go_sem] max2_int min2_int max_two min_two max_three min_three max_four min_four   -- for this text's walks alone
set_option linter.unusedVariables false
set_option linter.unusedSimpArgs false

/-! ### marigraphlaw13_of: function 21 -/
def marigraphlaw13_of.f (a0 : Int) (a1 : Int) : Option (CB) := some (⟨fofi a0, fofi a1⟩ : CB)
set_option maxHeartbeats 8000000 in
set_option maxRecDepth 100000 in
theorem marigraphlaw13_of.calls (a0 : Int) (a1 : Int) (r : CB) (w : World) (h : marigraphlaw13_of.f a0 a1 = some r) :
    Calls Try.prog 21 #[.int .i64 a0, .int .i64 a1] w fun e w' => e = .returned (cv r) ∧ Below w.heap.size w w' := by
  have HB := Aside0.mk (Below.refl w.heap.size w)
  have H : (some (⟨fofi a0, fofi a1⟩ : CB)) = some r := h
  clear h
  obtain rfl := Option.some.inj H
  go_enter Try.func21, Try.ntmps21
  go_wp2
  go_ret
  exact ⟨by first | rfl | (simp [errW_none, errW_some] <;> rfl) | (simp [*, errW_none, errW_some] <;> rfl), by repeat (first | (with_reducible first | exact HB.out | apply below_alloc | apply pw_below_drewN | apply below_drew1) | exact HB.out)⟩

end Go.Proofs.Ytjkpdjadbeidnaa.T
