/- Quarters of times that are later by quarters of a day. -/
import Derived.Test.YtjkpdjadbeidnaaPTv
namespace Go.Proofs.Ytjkpdjadbeidnaa.Pure
open Go.RowKit Go.Proofs.Ytjkpdjadbeidnaa.T Go.Proofs.Ytjkpdjadbeidnaa.Pl Go.Proofs.Ytjkpdjadbeidnaa.Flo Go.Proofs.YtjkpdjadbeidnaaW.PrintWords Go.Proofs.YtjkpdjadbeidnaaW.PrintLast Go.Proofs.YtjkpdjadbeidnaaW.PrintMore

theorem qd_eq {e t : Int} (he : 1 ≤ e) : qd t (e * 4) = (t / e) % 4 := by
  unfold qd
  have h4 : e * 4 / 4 = e := Int.mul_ediv_cancel _ (by decide)
  rw [h4]
  have h1 := Int.emod_add_mul_ediv t (e * 4)
  have hR0 := Int.emod_nonneg t (by omega : e * 4 ≠ 0)
  have hR1 := Int.emod_lt_of_pos t (by omega : 0 < e * 4)
  generalize t % (e * 4) = R at *
  generalize t / (e * 4) = Q at *
  have e1 : t / e = R / e + 4 * Q := by
    rw [← h1, show e * 4 * Q = e * (4 * Q) by rw [Int.mul_assoc]]
    exact Int.add_mul_ediv_left _ _ (by omega)
  have hs0 : 0 ≤ R / e := Int.ediv_nonneg hR0 (by omega)
  have hs1 : R / e < 4 := Int.ediv_lt_of_lt_mul (by omega) (by omega)
  rw [e1]
  omega

theorem qd_later {e t j : Int} (he : 1 ≤ e) : qd (t + j * e) (e * 4) = (qd t (e * 4) + j) % 4 := by
  rw [qd_eq he, qd_eq he, Int.add_mul_ediv_right _ _ (by omega)]
  omega

/-- A day of the laws: so many quarters. -/
theorem law_day {a1 : Int} (h : 0 ≤ a1 ∧ a1 ≤ 4294967295) : ∃ e : Int, 1 ≤ e ∧ e ≤ 262144 ∧ wrap64 ((wrap64 ((wrap64 (Int.tmod a1 262144)) + 1)) * 4) = e * 4 ∧ okDay (e * 4) := by
  have hr := @tmod_range a1 262144 (by omega)
  rw [tmod_pos h.1] at *
  refine ⟨a1 % 262144 + 1, by omega, by omega, ?_, ?_⟩
  · rw [w64 (x := a1 % 262144) (by omega) (by omega), w64 (x := a1 % 262144 + 1) (by omega) (by omega), w64 (by omega) (by omega)]
  · unfold okDay; omega
theorem day_quarter {e : Int} (h1 : 1 ≤ e) (h2 : e ≤ 262144) : wrap64 (Int.tdiv (e * 4) 4) = e := by
  rw [tdiv_pos (by omega), Int.mul_ediv_cancel _ (by decide), w64 (by omega) (by omega)]
theorem wfu32 {x : Int} (h : (Lit.int .u32 x).wf = true) : 0 ≤ x ∧ x ≤ 4294967295 := by
  simpa [Lit.wf, IntKind.min, IntKind.max, IntKind.signed, IntKind.bits] using h
theorem rot_q4 (q v : Int) (h : 0 ≤ q ∧ q < 4) : rot ((q + 1) % 4) v 0 = (-(rot q v 0).2, (rot q v 0).1) := by
  have : q = 0 ∨ q = 1 ∨ q = 2 ∨ q = 3 := by omega
  rcases this with e | e | e | e <;> subst e <;> simp [rot]
end Go.Proofs.Ytjkpdjadbeidnaa.Pure
