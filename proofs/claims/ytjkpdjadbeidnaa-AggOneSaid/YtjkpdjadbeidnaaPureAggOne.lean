/- AggOne as a plain statement: one bucket over all points is what Of tells. -/
import Derived.Test.YtjkpdjadbeidnaaXStAggOne
import Derived.Test.YtjkpdjadbeidnaaPAb
namespace Go.Proofs.Ytjkpdjadbeidnaa.Pure
open Go.RowKit Go.Proofs.Ytjkpdjadbeidnaa.X Go.Proofs.Ytjkpdjadbeidnaa.Pl Go.Proofs.YtjkpdjadbeidnaaW.PrintWords Go.Proofs.YtjkpdjadbeidnaaW.PrintLast Go.Proofs.YtjkpdjadbeidnaaW.PrintMore

theorem one_all (x : List S33) (hr : ris x = true) (h0 : 0 < x.length) : bks x[0].f0 (x[x.length - 1].f0 + (1 : Int)) (x[x.length - 1].f0 + (1 : Int) - x[0].f0) x = [⟨x[0].f0, ofS x⟩] := by
  have hR := ris_rising x hr
  have hle : ∀ p ∈ x, x[0].f0 ≤ p.f0 ∧ p.f0 ≤ x[x.length - 1].f0 := by
    intro p hp
    obtain ⟨i, hi, rfl⟩ := List.mem_iff_getElem.1 hp
    have hpw := List.pairwise_iff_getElem.1 hR
    constructor
    · by_cases h : i = 0
      · subst h; omega
      · exact Int.le_of_lt (hpw 0 i h0 hi (by omega))
    · by_cases h : i = x.length - 1
      · subst h; omega
      · exact Int.le_of_lt (hpw i (x.length - 1) hi (by omega) (by omega))
  have hall : x.filter (inR x[0].f0 (x[x.length - 1].f0 + (1 : Int))) = x := by
    rw [List.filter_eq_self]
    intro p hp
    have := hle p hp
    simp [inR]; omega
  have h1 := hle _ (List.getElem_mem h0)
  have hk : ∀ p ∈ x, bkey x[0].f0 (x[x.length - 1].f0 + (1 : Int) - x[0].f0) p = x[0].f0 := by
    intro p hp
    have := hle p hp
    have e := @bkey_at x[0].f0 (x[x.length - 1].f0 + (1 : Int) - x[0].f0) (by omega) 0 p (by omega) (by omega)
    rw [e]; omega
  have hg := grp_split (bkey x[0].f0 (x[x.length - 1].f0 + (1 : Int) - x[0].f0)) x[0].f0 x [] (by intro h; subst h; simp at h0) hk (by simp)
  rw [List.append_nil] at hg
  unfold bks
  rw [hall, hg]
  rfl

theorem AggOne : marigraphlaw12_AggOne.Pure := by
  intro l _ hwf
  refine Ev.rounds ?_
  unfold marigraphlaw12_AggOne.f
  obtain ⟨x, hx, hxl, hm⟩ := a_few l
  have hwx : wfP x := fun p hp => wfP_of hwf p (hm p hp)
  have hbad : ∀ c : Bool, c = true → Ev (fun k => marigraphlaw12_AggOne.j0 k true x c) true := by
    intro c hc
    exact ev_stop fun k => by rw [marigraphlaw12_AggOne.j0, if_pos hc]
  refine ev_bind a_shown_ev (ev_const hx ?_)
  by_cases h0 : (x.length : Int) = 0
  · exact ev_pos h0 (hbad _ rfl)
  · refine ev_neg h0 (ev_bind (ref_right_ev x (by omega)) ?_)
    have hp : 0 < x.length := by omega
    by_cases h1 : ris x = true
    · have hw : wrap64 ((x.length : Int) - 1) = ((x.length - 1 : Nat) : Int) := by rw [w64 (by omega) (by omega)]; omega
      have hlt : x.length - 1 < x.length := by omega
      have e0 : rd_T33 x 0 = x[0] := a_rd x 0 hp
      have el : rd_T33 x ((x.length - 1 : Nat) : Int) = x[x.length - 1] := a_rd x _ hlt
      have hone := one_all x h1 hp
      have hw0 := (hwx _ (List.getElem_mem hp)).1
      have hwl := (hwx _ (List.getElem_mem hlt)).1
      have hle : x[0].f0 ≤ x[x.length - 1].f0 := by
        by_cases h : x.length - 1 = 0
        · simp only [h]; omega
        · exact Int.le_of_lt (List.pairwise_iff_getElem.1 (ris_rising x h1) 0 (x.length - 1) hp hlt (by omega))
      refine ev_pos h1 (ev_pos (by omega) ?_)
      rw [e0, hw, el]
      by_cases h2 : x[0].f0 < -1152921504606846976
      · exact ev_pos h2 (hbad _ rfl)
      · refine ev_neg h2 (ev_pos (by omega) (ev_pos (by omega) ?_))
        by_cases h3 : x[x.length - 1].f0 ≥ 1152921504606846976
        · exact hbad _ (by simpa using h3)
        · have hb := buckets_ev x x[0].f0 (x[x.length - 1].f0 + (1 : Int)) (x[x.length - 1].f0 + (1 : Int) - x[0].f0) (by omega)
          have hbr : bucR x x[0].f0 (x[x.length - 1].f0 + (1 : Int)) (x[x.length - 1].f0 + (1 : Int) - x[0].f0) = ([⟨x[0].f0, ofS x⟩], 0) := by
            unfold bucR
            rw [if_pos ⟨h1, by omega, by omega, by omega, by omega⟩, if_neg ?_, hone]
            rw [Int.ediv_eq_zero_of_lt (by omega) (by omega)]; omega
          rw [hbr] at hb
          refine ev_succ (fun k => by rw [marigraphlaw12_AggOne.j0]) ?_
          rw [e0, hw, el, w64 (x := x[x.length - 1].f0 + (1 : Int)) (by omega) (by omega), w64 (x := x[x.length - 1].f0 + (1 : Int) - x[0].f0) (by omega) (by omega)]
          refine ev_neg (by simpa using h3) (ev_pos (by omega) (ev_pos (by omega) (ev_pos (by omega) (ev_bind hb (ev_pos rfl (ev_pos rfl (ev_bind (of_ev x (by omega)) (ev_bind ?_ (Ev.now _)))))))))
          exact a_same2 [⟨x[0].f0, ofS x⟩] (by simp)
    · exact ev_neg h1 (hbad _ rfl)
end Go.Proofs.Ytjkpdjadbeidnaa.Pure
