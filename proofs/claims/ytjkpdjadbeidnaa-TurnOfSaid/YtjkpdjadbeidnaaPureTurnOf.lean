/- TurnOf as a plain statement: whatever the points and the day, what comes of them, its whole parts and the error are the reference's. -/
import Derived.Test.YtjkpdjadbeidnaaT17
import Derived.Test.YtjkpdjadbeidnaaT18
import Derived.Test.YtjkpdjadbeidnaaT19
import Derived.Test.YtjkpdjadbeidnaaTStTurnOf
import Derived.Test.YtjkpdjadbeidnaaPTv
namespace Go.Proofs.Ytjkpdjadbeidnaa.Pure
open Go.RowKit Go.Proofs.Ytjkpdjadbeidnaa.T Go.Proofs.Ytjkpdjadbeidnaa.Pl Go.Proofs.Ytjkpdjadbeidnaa.Flo Go.Proofs.YtjkpdjadbeidnaaW.PrintWords Go.Proofs.YtjkpdjadbeidnaaW.PrintLast Go.Proofs.YtjkpdjadbeidnaaW.PrintMore

theorem ref_of_loop {day : Int} (hd : okDay day) (l : List S33) (hl : l.length ≤ 1024) (d : Nat) : ∀ (i : Nat) (s : Int × Int), l.length - i = d → i ≤ l.length → s.1.natAbs ≤ 1099511627776 * i → s.2.natAbs ≤ 1099511627776 * i →
    Ev (fun k => marigraphref13_Of.l0 k l day s.1 s.2 (i : Int)) ((ofL day (l.drop i) s).1.1, (ofL day (l.drop i) s).1.2, (ofL day (l.drop i) s).2) := by
  induction d with
  | zero =>
    intro i s h1 h2 _ _
    have hi : i = l.length := by omega
    subst hi
    simp only [List.drop_length, ofL]
    exact ev_stop fun k => by rw [marigraphref13_Of.l0, if_neg (by omega)]
  | succ d ih =>
    intro i s h1 h2 h3 h4
    have hlt : i < l.length := by omega
    have hdr : l.drop i = l[i] :: l.drop (i + 1) := List.drop_eq_getElem_cons hlt
    have hwr : wrap64 ((i : Int) + 1) = ((i + 1 : Nat) : Int) := by rw [w64 (by omega) (by omega)]; omega
    rw [hdr]
    refine ev_succ (fun k => by rw [marigraphref13_Of.l0]) ?_
    refine ev_pos (by omega) (ev_pos (by omega) ?_)
    rw [rd33 l i hlt]
    have hj : ∀ b : Bool, b = decide (l[i].f1 < -1099511627776 ∨ l[i].f1 > 1099511627776) → Ev (fun k => marigraphref13_Of.j1 k l day s.1 s.2 (i : Int) b) ((ofL day (l[i] :: l.drop (i + 1)) s).1.1, (ofL day (l[i] :: l.drop (i + 1)) s).1.2, (ofL day (l[i] :: l.drop (i + 1)) s).2) := by
      intro b hb
      by_cases hbad : l[i].f1 < -1099511627776 ∨ l[i].f1 > 1099511627776
      · rw [decide_eq_true hbad] at hb
        subst hb
        rw [ofL, if_pos hbad]
        exact ev_stop fun k => by rw [marigraphref13_Of.j1, if_pos rfl]
      · rw [decide_eq_false hbad] at hb
        subst hb
        refine ev_succ (fun k => by rw [marigraphref13_Of.j1]) ?_
        refine ev_neg (by simp) (ev_pos (by omega) (ev_pos (by omega) ?_))
        rw [ofL, if_neg hbad, rd33 l i hlt]
        have hq := @qd_range l[i].f0 day hd
        have hb' := ref_by_ev (qd l[i].f0 day) l[i].f1 0 (by omega) (by simp)
        rw [Int.emod_eq_of_lt hq.1 hq.2] at hb'
        have hr := rot_le (m := qd l[i].f0 day) (a := l[i].f1) (B := 1099511627776) (by omega)
        refine ev_bind (ref_quarter_ok hd) (ev_bind hb' ?_)
        generalize rot (qd l[i].f0 day) l[i].f1 0 = r at *
        rw [w64 (x := s.1 + r.1) (by omega) (by omega), w64 (x := s.2 + r.2) (by omega) (by omega), hwr]
        exact ih (i + 1) (s.1 + r.1, s.2 + r.2) (by omega) (by omega) (by simp; omega) (by simp; omega)
    by_cases hb : l[i].f1 < -1099511627776
    · exact ev_pos hb (hj true (by simp [hb]))
    · exact ev_neg hb (hj _ (by simp [hb]))

theorem ofL_small (day : Int) : ∀ (l : List S33) (s : Int × Int) (n : Nat), s.1.natAbs ≤ 1099511627776 * n → s.2.natAbs ≤ 1099511627776 * n → (ofL day l s).1.1.natAbs ≤ 1099511627776 * (n + l.length) ∧ (ofL day l s).1.2.natAbs ≤ 1099511627776 * (n + l.length)
  | [], s, n, h1, h2 => by simp only [ofL, List.length_nil]; omega
  | p :: l, s, n, h1, h2 => by
    rw [ofL]
    split
    · simp
    · rename_i hb
      have hr := rot_le (m := qd p.f0 day) (a := p.f1) (B := 1099511627776) (by omega)
      have := ofL_small day l (s.1 + (rot (qd p.f0 day) p.f1 0).1, s.2 + (rot (qd p.f0 day) p.f1 0).2) (n + 1) (by simp; omega) (by simp; omega)
      simp only [List.length_cons]
      omega

theorem few_is (l : List S33) : ∃ x : List S33, marigraphlaw13_few.f l = some x ∧ x.length ≤ 1030 := by
  have hmn := @mn_le (l.length : Int) 1030
  unfold marigraphlaw13_few.f
  rw [if_pos (by rcases hmn.2.2 with e | e <;> omega), if_pos (by omega)]
  exact ⟨_, rfl, by rw [List.length_take]; omega⟩

theorem TurnOf : marigraphlaw13_TurnOf.Pure := by
  intro l0 day _ _ _
  refine Ev.rounds ?_
  unfold marigraphlaw13_TurnOf.f
  obtain ⟨x, hx, hxl⟩ := few_is l0
  have key : ∃ (r : Int × Int) (e : Int), r.1.natAbs ≤ 4503599627370496 ∧ r.2.natAbs ≤ 4503599627370496 ∧ Ev (fun k => turn_Of.f k x day) (C r, e) ∧ Ev (fun k => marigraphref13_Of.f k x day) (r.1, r.2, e) := by
    by_cases hlong : (x.length : Int) > 1024
    · refine ⟨(0, 0), 3, by simp, by simp, ?_, ?_⟩
      · unfold turn_Of.f; exact ev_pos hlong (Ev.now _)
      · unfold marigraphref13_Of.f; exact ev_pos hlong (Ev.now _)
    · by_cases hd : okDay day
      · have hs := ofL_small day x (0, 0) 0 (by simp) (by simp)
        refine ⟨(ofL day x (0, 0)).1, (ofL day x (0, 0)).2, by omega, by omega, of_ev hd x (by omega), ?_⟩
        unfold marigraphref13_Of.f
        refine ev_neg hlong (ev_bind (ref_quarter_ok hd) (ev_pos rfl ?_))
        exact ref_of_loop hd x (by omega) _ 0 (0, 0) rfl (Nat.zero_le _) (by simp) (by simp)
      · refine ⟨(0, 0), 1, by simp, by simp, ?_, ?_⟩
        · unfold turn_Of.f
          exact ev_neg hlong (ev_const (quarter_no hd) (ev_neg (by simp) (Ev.now _)))
        · unfold marigraphref13_Of.f
          exact ev_neg hlong (ev_bind (ref_quarter_no hd) (ev_neg (by simp) (Ev.now _)))
  obtain ⟨r, e, h1, h2, h3, h4⟩ := key
  have hrs : small r := ⟨by omega, by omega⟩
  refine ev_const hx (ev_bind h3 (ev_const hx (ev_bind h4 (ev_const (Whole_is h1 h2) (ev_bind shown_ev (ev_pos rfl (ev_const (of_is hrs) (ev_pos ?_ (ev_pos rfl (ev_pos rfl (ev_eq (Ev.now _) ?_)))))))))))
  · exact (ceq_C hrs hrs).trans (by simp)
  · simp
end Go.Proofs.Ytjkpdjadbeidnaa.Pure
