/- TurnLater as a plain statement: a quarter of a day later all is turned by one quarter. -/
import Derived.Test.YtjkpdjadbeidnaaTStTurnLater
import Derived.Test.YtjkpdjadbeidnaaPTw
namespace Go.Proofs.Ytjkpdjadbeidnaa.Pure
open Go.RowKit Go.Proofs.Ytjkpdjadbeidnaa.T Go.Proofs.Ytjkpdjadbeidnaa.Pl Go.Proofs.Ytjkpdjadbeidnaa.Flo Go.Proofs.YtjkpdjadbeidnaaW.PrintWords Go.Proofs.YtjkpdjadbeidnaaW.PrintLast Go.Proofs.YtjkpdjadbeidnaaW.PrintMore

def gx (p : S33) : S33 := ⟨Int.tmod p.f0 1125899906842624, Int.tmod p.f1 1099511627776⟩
def gy (e : Int) (p : S33) : S33 := ⟨Int.tmod p.f0 1125899906842624 + e, Int.tmod p.f1 1099511627776⟩

theorem sum_later {e : Int} (he : 1 ≤ e) : ∀ (l : List S33), (∀ p ∈ l, True) → sumT (e * 4) (l.map (gy e)) = rot 1 (sumT (e * 4) (l.map gx)).1 (sumT (e * 4) (l.map gx)).2
  | [], _ => by simp [sumT, rot]
  | p :: l, h => by
    have ih := sum_later he l (fun _ _ => trivial)
    have hd : okDay (e * 4) ∨ ¬ okDay (e * 4) := Classical.em _
    have hq := @qd_later e (Int.tmod p.f0 1125899906842624) 1 he
    rw [Int.one_mul] at hq
    have hr : 0 ≤ qd (Int.tmod p.f0 1125899906842624) (e * 4) ∧ qd (Int.tmod p.f0 1125899906842624) (e * 4) < 4 := by
      rw [qd_eq he]; omega
    have h4 := rot_q4 _ (Int.tmod p.f1 1099511627776) hr
    simp only [List.map_cons, sumT, gx, gy] at *
    rw [hq, h4, ih]
    simp only [rot, if_true]
    refine Prod.ext ?_ ?_ <;> simp <;> omega

theorem later_loop {e : Int} (he1 : 1 ≤ e) (he2 : e ≤ 262144) (l : List S33) (hl : l.length < 9223372036854775807) (r : Bool)
    (hend : Ev (fun k => marigraphlaw13_TurnLater.l0 k true (e * 4) ((l.take 500).map gx) ((l.take 500).map (gy e)) l (l.length : Int) (l.length : Int)) r) (d : Nat) :
    ∀ i : Nat, l.length - i = d → i ≤ l.length → Ev (fun k => marigraphlaw13_TurnLater.l0 k true (e * 4) (((l.take 500).take i).map gx) (((l.take 500).take i).map (gy e)) l (l.length : Int) (i : Int)) r := by
  induction d with
  | zero =>
    intro i h1 h2
    have hi : i = l.length := by omega
    subst hi
    rw [List.take_of_length_le (by rw [List.length_take]; omega)]
    exact hend
  | succ d ih =>
    intro i h1 h2
    have hlt : i < l.length := by omega
    have hwr : wrap64 ((i : Int) + 1) = ((i + 1 : Nat) : Int) := by rw [w64 (by omega) (by omega)]; omega
    refine ev_succ (fun k => by rw [marigraphlaw13_TurnLater.l0]) ?_
    rw [rd33 l i hlt, hwr]
    refine ev_pos (by omega) (ev_pos (by omega) (ev_pos (by omega) ?_))
    have hih := ih (i + 1) (by omega) (by omega)
    by_cases h5 : (i : Int) < 500
    · refine ev_pos h5 ?_
      have hlen : i < (l.take 500).length := by rw [List.length_take]; omega
      have hel : (l.take 500)[i] = l[i] := List.getElem_take
      rw [List.take_succ_eq_append_getElem hlen, hel, List.map_append, List.map_append] at hih
      have r0 := @tmod_range l[i].f0 1125899906842624 (by omega)
      have hs : ((l.take 500).take i).length ≤ 500 := by rw [List.length_take, List.length_take]; omega
      rw [day_quarter he1 he2, w64 (x := Int.tmod l[i].f0 1125899906842624 + e) (by omega) (by omega)]
      refine ev_some (ev_pos (by simp; omega) (ev_some (ev_pos (by simp; omega) ?_)))
      exact hih
    · refine ev_neg h5 ?_
      rw [List.take_of_length_le (l := l.take 500) (by rw [List.length_take]; omega)] at hih ⊢
      exact hih

theorem TurnLater : marigraphlaw13_TurnLater.Pure := by
  intro l a1 hsz _ h1
  obtain ⟨e, he1, he2, hday, hd⟩ := law_day (wfu32 h1)
  refine Ev.rounds ?_
  unfold marigraphlaw13_TurnLater.f
  rw [hday]
  refine ev_bind shown_ev ?_
  have hv : ∀ p : S33, -1099511627776 ≤ (gx p).f1 ∧ (gx p).f1 ≤ 1099511627776 := by
    intro p
    have := @tmod_range p.f1 1099511627776 (by omega)
    simp only [gx]; omega
  have hx : ∀ p ∈ (l.take 500).map gx, -1099511627776 ≤ p.f1 ∧ p.f1 ≤ 1099511627776 := by
    intro p hp
    obtain ⟨q, _, rfl⟩ := List.mem_map.1 hp
    exact hv q
  have hy : ∀ p ∈ (l.take 500).map (gy e), -1099511627776 ≤ p.f1 ∧ p.f1 ≤ 1099511627776 := by
    intro p hp
    obtain ⟨q, _, rfl⟩ := List.mem_map.1 hp
    exact hv q
  have hlx : ((l.take 500).map gx).length ≤ 1024 := by rw [List.length_map, List.length_take]; omega
  have hly : ((l.take 500).map (gy e)).length ≤ 1024 := by rw [List.length_map, List.length_take]; omega
  have ox := of_sum hd _ hlx hx
  have oy := of_sum hd _ hly hy
  have sx := sumT_ok (day := e * 4) hlx hx
  have hsum := sum_later he1 (l.take 500) (fun _ _ => trivial)
  have hby := by_is (q := 1) sx
  have hrs := rot_small (m := 1 % 4) sx
  have hend : Ev (fun k => marigraphlaw13_TurnLater.l0 k true (e * 4) ((l.take 500).map gx) ((l.take 500).map (gy e)) l (l.length : Int) (l.length : Int)) true := by
    refine ev_succ (fun k => by rw [marigraphlaw13_TurnLater.l0]) ?_
    refine ev_neg (by omega) (ev_bind ox (ev_bind oy (ev_pos rfl (ev_pos rfl (ev_pos rfl (ev_const hby (ev_eq (Ev.now _) ?_)))))))
    rw [hsum]
    exact (ceq_C hrs hrs).trans (by simp)
  have := later_loop he1 he2 l (by omega) true hend _ 0 rfl (Nat.zero_le _)
  simpa using this
end Go.Proofs.Ytjkpdjadbeidnaa.Pure
