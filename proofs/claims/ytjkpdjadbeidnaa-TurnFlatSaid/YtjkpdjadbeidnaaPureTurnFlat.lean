/- TurnFlat as a plain statement: the same value in each quarter of a day comes to 0, and so do opposite quarters. -/
import Derived.Test.YtjkpdjadbeidnaaT12
import Derived.Test.YtjkpdjadbeidnaaPTw
namespace Go.Proofs.Ytjkpdjadbeidnaa.Pure
open Go.RowKit Go.Proofs.Ytjkpdjadbeidnaa.T Go.Proofs.Ytjkpdjadbeidnaa.Pl Go.Proofs.Ytjkpdjadbeidnaa.Flo Go.Proofs.YtjkpdjadbeidnaaW.PrintWords Go.Proofs.YtjkpdjadbeidnaaW.PrintLast Go.Proofs.YtjkpdjadbeidnaaW.PrintMore

theorem TurnFlat : marigraphlaw13_TurnFlat.Pure := by
  intro v a1 t _ h1 _
  obtain ⟨e, he1, he2, hday, hd⟩ := law_day (wfu32 h1)
  have r0 := @tmod_range v 1099511627776 (by omega)
  have r1 := @tmod_range t 1125899906842624 (by omega)
  refine Ev.rounds ?_
  unfold marigraphlaw13_TurnFlat.f
  rw [hday]
  generalize Int.tmod v 1099511627776 = x at *
  generalize Int.tmod t 1125899906842624 = a at *
  refine ev_bind shown_ev ?_
  have hq := day_quarter he1 he2
  have step : ∀ (i : Int) (l : List S33) (r : Bool), 0 ≤ i → i < 4 → l.length < 10 → Ev (fun k => marigraphlaw13_TurnFlat.l0 k true (e * 4) x a (l ++ [⟨a + i * e, x⟩]) (i + 1)) r → Ev (fun k => marigraphlaw13_TurnFlat.l0 k true (e * 4) x a l i) r := by
    intro i l r h0 h4 hl h
    refine ev_succ (fun k => by rw [marigraphlaw13_TurnFlat.l0]) ?_
    refine ev_pos h4 (ev_pos (by omega) ?_)
    have hm : 0 ≤ i * e ∧ i * e ≤ 3 * 262144 := ⟨Int.mul_nonneg h0 (by omega), Int.mul_le_mul (by omega) he2 (by omega) (by omega)⟩
    rw [hq, w64 (x := i * e) (by omega) (by omega), w64 (x := a + i * e) (by omega) (by omega), w64 (x := i + 1) (by omega) (by omega)]
    exact h
  refine step 0 [] true (by omega) (by omega) (by simp) (step 1 _ true (by omega) (by omega) (by simp) (step 2 _ true (by omega) (by omega) (by simp) (step 3 _ true (by omega) (by omega) (by simp) ?_)))
  simp only [List.nil_append, List.cons_append]
  have hq0 := @qd_range a (e * 4) hd
  have q0 : qd (a + 0 * e) (e * 4) = qd a (e * 4) := by rw [Int.zero_mul, Int.add_zero]
  have q1 := @qd_later e a 1 he1
  have q2 := @qd_later e a 2 he1
  have q3 := @qd_later e a 3 he1
  have hv4 : ∀ p ∈ ([⟨a + 0 * e, x⟩, ⟨a + 1 * e, x⟩, ⟨a + 2 * e, x⟩, ⟨a + 3 * e, x⟩] : List S33), -1099511627776 ≤ p.f1 ∧ p.f1 ≤ 1099511627776 := by
    intro p hp
    simp at hp
    rcases hp with rfl | rfl | rfl | rfl <;> simp <;> omega
  have hv2 : ∀ p ∈ ([⟨a + 0 * e, x⟩, ⟨a + 2 * e, x⟩] : List S33), -1099511627776 ≤ p.f1 ∧ p.f1 ≤ 1099511627776 := by
    intro p hp
    simp at hp
    rcases hp with rfl | rfl <;> simp <;> omega
  have s4 : sumT (e * 4) [⟨a + 0 * e, x⟩, ⟨a + 1 * e, x⟩, ⟨a + 2 * e, x⟩, ⟨a + 3 * e, x⟩] = (0, 0) := by
    simp only [sumT, q0, q1, q2, q3]
    have : qd a (e * 4) = 0 ∨ qd a (e * 4) = 1 ∨ qd a (e * 4) = 2 ∨ qd a (e * 4) = 3 := by omega
    rcases this with f | f | f | f <;> rw [f] <;> simp [rot] <;> omega
  have s2 : sumT (e * 4) [⟨a + 0 * e, x⟩, ⟨a + 2 * e, x⟩] = (0, 0) := by
    simp only [sumT, q0, q2]
    have : qd a (e * 4) = 0 ∨ qd a (e * 4) = 1 ∨ qd a (e * 4) = 2 ∨ qd a (e * 4) = 3 := by omega
    rcases this with f | f | f | f <;> rw [f] <;> simp [rot] <;> omega
  have o4 := of_sum hd _ (by simp) hv4
  have o2 := of_sum hd _ (by simp) hv2
  rw [s4] at o4
  rw [s2] at o2
  refine ev_succ (fun k => by rw [marigraphlaw13_TurnFlat.l0]) ?_
  refine ev_neg (by omega) (ev_bind o4 (ev_pos (by simp) (ev_pos (by simp) (ev_bind o2 (ev_pos rfl (ev_pos rfl (ev_pos rfl (ev_pos (by decide) (ev_eq (Ev.now _) (by decide))))))))))
end Go.Proofs.Ytjkpdjadbeidnaa.Pure
