/- TurnParts as a plain statement: what comes of points does not hang on their order, and is that of their parts together. -/
import Derived.Test.YtjkpdjadbeidnaaTStTurnParts
import Derived.Test.YtjkpdjadbeidnaaPTw
namespace Go.Proofs.Ytjkpdjadbeidnaa.Pure
open Go.RowKit Go.Proofs.Ytjkpdjadbeidnaa.T Go.Proofs.Ytjkpdjadbeidnaa.Pl Go.Proofs.Ytjkpdjadbeidnaa.Flo Go.Proofs.YtjkpdjadbeidnaaW.PrintWords Go.Proofs.YtjkpdjadbeidnaaW.PrintLast Go.Proofs.YtjkpdjadbeidnaaW.PrintMore

def gp (p : S33) : S33 := ⟨p.f0, Int.tmod p.f1 1099511627776⟩

theorem parts_end {day : Int} (hd : okDay day) (a2 : Int) (h2 : 0 ≤ a2 ∧ a2 ≤ 65535) (x l : List S33) (hx : x.length ≤ 500) (hv : ∀ p ∈ x, -1099511627776 ≤ p.f1 ∧ p.f1 ≤ 1099511627776):
    Ev (fun k => marigraphlaw13_TurnParts.l0 k a2 true day x l (l.length : Int) (l.length : Int)) true := by
  have hw : wrap64 ((x.length : Int) + 1) = (x.length : Int) + 1 := w64 (by omega) (by omega)
  have hw2 : wrap64 a2 = a2 := w64 (by omega) (by omega)
  obtain ⟨m, hm⟩ : ∃ m : Nat, Int.tmod a2 ((x.length : Int) + 1) = (m : Int) := by
    have hr := @tmod_range a2 ((x.length : Int) + 1) (by omega)
    refine ⟨(Int.tmod a2 ((x.length : Int) + 1)).toNat, ?_⟩
    rw [tmod_pos h2.1] at *
    have := Int.emod_nonneg a2 (by omega : ((x.length : Int) + 1) ≠ 0)
    omega
  have hml : m ≤ x.length := by
    have hr := @tmod_range a2 ((x.length : Int) + 1) (by omega)
    omega
  have hvt : ∀ p ∈ x.take m, -1099511627776 ≤ p.f1 ∧ p.f1 ≤ 1099511627776 := fun p hp => hv p (List.mem_of_mem_take hp)
  have hvd : ∀ p ∈ x.drop m, -1099511627776 ≤ p.f1 ∧ p.f1 ≤ 1099511627776 := fun p hp => hv p (List.mem_of_mem_drop hp)
  have hvs : ∀ p ∈ ([] ++ x.drop m) ++ x.take m, -1099511627776 ≤ p.f1 ∧ p.f1 ≤ 1099511627776 := by
    intro p hp
    rcases List.mem_append.1 hp with hp | hp
    · rw [List.nil_append] at hp; exact hvd p hp
    · exact hvt p hp
  have lt : (x.take m).length ≤ 500 := by rw [List.length_take]; omega
  have ld : (x.drop m).length ≤ 500 := by rw [List.length_drop]; omega
  have ls : (([] ++ x.drop m) ++ x.take m).length ≤ 1024 := by simp; omega
  have o := of_sum hd x (by omega) hv
  have ot := of_sum hd (x.take m) (by omega) hvt
  have od := of_sum hd (x.drop m) (by omega) hvd
  have os := of_sum hd _ ls hvs
  have s := sumT_ok (day := day) (by omega) hv
  have st := sumT_ok (day := day) (by omega : (x.take m).length ≤ 1024) hvt
  have sd := sumT_ok (day := day) (by omega : (x.drop m).length ≤ 1024) hvd
  have ss := sumT_ok (day := day) ls hvs
  have e1 : sumT day x = ((sumT day (x.take m)).1 + (sumT day (x.drop m)).1, (sumT day (x.take m)).2 + (sumT day (x.drop m)).2) := by
    conv => lhs; rw [← List.take_append_drop m x]
    exact sumT_append _ _ _
  have e2 : sumT day (([] ++ x.drop m) ++ x.take m) = sumT day x := by
    rw [List.nil_append, sumT_append, e1]
    refine Prod.ext ?_ ?_ <;> simp <;> omega
  have b := sumT_small day x hv
  refine ev_succ (fun k => by rw [marigraphlaw13_TurnParts.l0]) ?_
  rw [hw, hw2, hm, Int.toNat_natCast]
  refine ev_neg (by omega) (ev_neg (by omega) (ev_bind o (ev_pos (by omega) (ev_pos (by omega) (ev_some (ev_bind ot (ev_some (ev_bind od (ev_some (ev_pos (by simp; omega) (ev_some (ev_pos (by simp; omega) (ev_bind os (ev_pos rfl (ev_pos rfl (ev_pos rfl (ev_pos rfl (ev_pos rfl ?_))))))))))))))))))
  rw [e2]
  generalize sumT day x = r at *
  generalize sumT day (x.take m) = rt at *
  generalize sumT day (x.drop m) = rd at *
  have h1 : r.1 = rt.1 + rd.1 := by rw [e1]
  have h2' : r.2 = rt.2 + rd.2 := by rw [e1]
  have f1 := fadd_is (isP_word st.1).is (isP_word sd.1) (by rw [← h1]; exact s.1)
  have f2 := fadd_is (isP_word st.2).is (isP_word sd.2) (by rw [← h2']; exact s.2)
  refine ev_pos f1.1 (ev_pos f2.1 (ev_pos ?_ (ev_eq (Ev.now _) ?_)))
  · show ceq (C r).re (C r).im (fadd (wordI rt.1) (wordI rd.1)) (fadd (wordI rt.2) (wordI rd.2)) = true
    rw [f1.2, f2.2, ← h1, ← h2']
    exact (ceq_C s s).trans (by simp)
  · exact (ceq_C s s).trans (by simp)

theorem parts_loop {day : Int} (a2 : Int) (l : List S33) (hl : l.length < 9223372036854775807) (r : Bool)
    (hend : Ev (fun k => marigraphlaw13_TurnParts.l0 k a2 true day ((l.take 500).map gp) l (l.length : Int) (l.length : Int)) r) (d : Nat) :
    ∀ i : Nat, l.length - i = d → i ≤ l.length → Ev (fun k => marigraphlaw13_TurnParts.l0 k a2 true day (((l.take 500).take i).map gp) l (l.length : Int) (i : Int)) r := by
  induction d with
  | zero =>
    intro i h1 h2
    have hi : i = l.length := by omega
    subst hi
    rw [List.take_of_length_le (by rw [List.length_take]; omega)]
    exact hend
  | succ d ih =>
    intro i h1 h2
    have hlt : i < l.length := by omega
    have hwr : wrap64 ((i : Int) + 1) = ((i + 1 : Nat) : Int) := by rw [w64 (by omega) (by omega)]; omega
    refine ev_succ (fun k => by rw [marigraphlaw13_TurnParts.l0]) ?_
    rw [rd33 l i hlt, hwr]
    refine ev_pos (by omega) (ev_pos (by omega) (ev_pos (by omega) ?_))
    have hih := ih (i + 1) (by omega) (by omega)
    by_cases h5 : (i : Int) < 500
    · refine ev_pos h5 ?_
      have hlen : i < (l.take 500).length := by rw [List.length_take]; omega
      have hel : (l.take 500)[i] = l[i] := List.getElem_take
      rw [List.take_succ_eq_append_getElem hlen, hel, List.map_append] at hih
      have hs : ((l.take 500).take i).length ≤ 500 := by rw [List.length_take, List.length_take]; omega
      refine ev_pos (by simp; omega) ?_
      exact hih
    · refine ev_neg h5 ?_
      rw [List.take_of_length_le (l := l.take 500) (by rw [List.length_take]; omega)] at hih ⊢
      exact hih

theorem TurnParts : marigraphlaw13_TurnParts.Pure := by
  intro l a1 a2 hsz _ h1 h2
  obtain ⟨e, _, _, hday, hd⟩ := law_day (wfu32 h1)
  have w2 : 0 ≤ a2 ∧ a2 ≤ 65535 := by simpa [Lit.wf, IntKind.min, IntKind.max, IntKind.signed, IntKind.bits] using h2
  refine Ev.rounds ?_
  unfold marigraphlaw13_TurnParts.f
  rw [hday]
  refine ev_bind shown_ev ?_
  have hv : ∀ p ∈ (l.take 500).map gp, -1099511627776 ≤ p.f1 ∧ p.f1 ≤ 1099511627776 := by
    intro p hp
    obtain ⟨q, _, rfl⟩ := List.mem_map.1 hp
    have := @tmod_range q.f1 1099511627776 (by omega)
    simp only [gp]; omega
  have hend := parts_end hd a2 w2 ((l.take 500).map gp) l (by rw [List.length_map, List.length_take]; omega) hv
  have := parts_loop a2 l (by omega) true hend _ 0 rfl (Nat.zero_le _)
  simpa using this
end Go.Proofs.Ytjkpdjadbeidnaa.Pure
