/- AggWhole as a plain statement: buckets, joined, are what comes of all points between. -/
import Derived.Test.YtjkpdjadbeidnaaPAv
import Derived.Test.YtjkpdjadbeidnaaXStAggWhole
namespace Go.Proofs.Ytjkpdjadbeidnaa.Pure
open Go.RowKit Go.Proofs.Ytjkpdjadbeidnaa.X Go.Proofs.Ytjkpdjadbeidnaa.Pl Go.Proofs.YtjkpdjadbeidnaaW.PrintWords Go.Proofs.YtjkpdjadbeidnaaW.PrintLast Go.Proofs.YtjkpdjadbeidnaaW.PrintMore

theorem inc_length : ∀ (l : List Int) (lo hi : Int), l.Pairwise (fun x y => x < y) → (∀ x ∈ l, lo ≤ x ∧ x ≤ hi) → (l.length : Int) ≤ max 0 (hi - lo + 1)
  | [], lo, hi, _, _ => by simp; omega
  | x :: l, lo, hi, h, hb => by
    have h' := List.pairwise_cons.1 h
    have hx := hb x List.mem_cons_self
    have ih := inc_length l (x + 1) hi h'.2 (fun y hy => ⟨by have := h'.1 y hy; omega, (hb y (List.mem_cons_of_mem _ hy)).2⟩)
    rw [List.length_cons]
    omega
theorem bkey_mono {a step : Int} (h : 1 ≤ step) (p q : S33) (hpq : p.f0 ≤ q.f0) : bkey a step p ≤ bkey a step q := by
  unfold bkey
  have := Int.mul_le_mul_of_nonneg_right (Int.ediv_le_ediv (by omega : 0 < step) (by omega : p.f0 - a ≤ q.f0 - a)) (by omega : 0 ≤ step)
  omega

/-- What is told of one group. -/
structure Gr (a b step : Int) (G : Int × List S33) : Prop where
  lo : a ≤ G.1
  hi : G.1 < b
  at_ : ∃ q : Int, 0 ≤ q ∧ q ≤ (b - a - 1) / step ∧ G.1 = a + q * step
  some_ : G.2 ≠ []

theorem grs {a b step : Int} (hs : 1 ≤ step) (x : List S33) : ∀ G ∈ grp (bkey a step) (x.filter (inR a b)), Gr a b step G := by
  intro G hG
  obtain ⟨hne, hk⟩ := grp_each _ _ G.1 G.2 hG
  obtain ⟨p, hp⟩ := List.exists_mem_of_ne_nil _ hne
  have hpF : p ∈ x.filter (inR a b) := by
    have := grp_join (bkey a step) (x.filter (inR a b))
    rw [← this]
    exact List.mem_flatMap.2 ⟨G, hG, hp⟩
  have hin := (List.mem_filter.1 hpF).2
  simp only [inR, Bool.and_eq_true, decide_eq_true_eq] at hin
  have hkp := hk p hp
  have hq : 0 ≤ (p.f0 - a) / step := Int.ediv_nonneg (by omega) (by omega)
  have hq2 : (p.f0 - a) / step ≤ (b - a - 1) / step := Int.ediv_le_ediv (by omega) (by omega)
  have hqs : 0 ≤ (p.f0 - a) / step * step := Int.mul_nonneg hq (by omega)
  have hr := @bkey_range a step hs p
  have hb : bkey a step p = a + (p.f0 - a) / step * step := rfl
  exact ⟨by omega, by omega, ⟨_, hq, hq2, by omega⟩, hne⟩
theorem grs_inc {a b step : Int} (hs : 1 ≤ step) (x : List S33) (hr : Rising x) : (grp (bkey a step) (x.filter (inR a b))).Pairwise (fun x y => x.1 < y.1) :=
  grp_keys _ _ (List.Pairwise.imp (fun h => bkey_mono hs _ _ (Int.le_of_lt h)) (List.Pairwise.filter _ hr))
theorem grs_few {a b step : Int} (hs : 1 ≤ step) (x : List S33) (hr : Rising x) (hf : (b - a - 1) / step < 200) : (grp (bkey a step) (x.filter (inR a b))).length ≤ 200 := by
  have hp := grs_inc (a := a) (b := b) hs x hr
  have hg := @grs a b step hs x
  generalize grp (bkey a step) (x.filter (inR a b)) = L at hp hg
  have h1 : (L.map (fun G => (G.1 - a) / step)).Pairwise (fun x y => x < y) := by
    rw [List.pairwise_map]
    refine List.Pairwise.imp_of_mem ?_ hp
    intro A B hA hB hAB
    obtain ⟨q, _, _, e⟩ := (hg A hA).at_
    obtain ⟨r, _, _, e'⟩ := (hg B hB).at_
    have d1 : (A.1 - a) / step = q := by rw [show A.1 - a = q * step by omega, Int.mul_ediv_cancel _ (by omega)]
    have d2 : (B.1 - a) / step = r := by rw [show B.1 - a = r * step by omega, Int.mul_ediv_cancel _ (by omega)]
    rw [d1, d2]
    rcases Int.lt_or_le q r with h | h
    · exact h
    · have := Int.mul_le_mul_of_nonneg_right h (by omega : 0 ≤ step)
      omega
  have h2 := inc_length _ 0 ((b - a - 1) / step) h1 (by
    intro z hz
    obtain ⟨A, hA, rfl⟩ := List.mem_map.1 hz
    obtain ⟨q, h0, hq, e⟩ := (hg A hA).at_
    have d1 : (A.1 - a) / step = q := by rw [show A.1 - a = q * step by omega, Int.mul_ediv_cancel _ (by omega)]
    simp only [d1]; omega)
  simp only [List.length_map] at h2
  omega

theorem whole_fold {a b step : Int} (hs : 1 ≤ step) (ha : -1152921504606846976 ≤ a) (hb : b ≤ 1152921504606846976) (L : List (Int × List S33)) (hg : ∀ G ∈ L, Gr a b step G) (hp : L.Pairwise (fun x y => x.1 < y.1)) (hL : L.length ≤ 200) (hLp : (L.flatMap (·.2)).length < 1000000) (d : Nat) :
    ∀ i : Nat, L.length - i = d → i ≤ L.length → Ev (fun k => marigraphlaw12_AggWhole.l1 k a b step true (L.map mkB) (L.flatMap (·.2)) (L.map mkB) (L.length : Int) (i : Int) (ofS ((L.take i).flatMap (·.2))).f0 (ofS ((L.take i).flatMap (·.2))).f1 (ofS ((L.take i).flatMap (·.2))).f2 (ofS ((L.take i).flatMap (·.2))).f3 (ofS ((L.take i).flatMap (·.2))).f4 (ofS ((L.take i).flatMap (·.2))).f5) true := by
  have hlen : ((L.map mkB).length : Int) = (L.length : Int) := by simp
  induction d with
  | zero =>
    intro i hd hi
    obtain rfl : i = L.length := by omega
    rw [List.take_length]
    refine ev_succ (fun k => by rw [marigraphlaw12_AggWhole.l1]) ?_
    rw [hlen]
    refine ev_neg (by omega) (ev_pos rfl (ev_pos (by omega) (ev_bind (of_ev _ (by omega)) (ev_eq (Ev.now _) ?_))))
    simp
  | succ d ih =>
    intro i hd hi
    have hlt : i < L.length := by omega
    have hwr : wrap64 ((i : Int) + 1) = ((i + 1 : Nat) : Int) := by rw [w64 (by omega) (by omega)]; omega
    have hrd : rd_T68 (L.map mkB) (i : Int) = mkB L[i] := by rw [a_rdb _ i (by simpa using hlt)]; simp
    have hG := hg _ (List.getElem_mem hlt)
    have ih := ih (i + 1) (by omega) (by omega)
    have hfm : (L.take (i + 1)).flatMap (·.2) = (L.take i).flatMap (·.2) ++ L[i].2 := by
      rw [List.take_succ_eq_append_getElem hlt, List.flatMap_append]; simp
    have hsplit : L.flatMap (·.2) = (L.take (i + 1)).flatMap (·.2) ++ (L.drop (i + 1)).flatMap (·.2) := by
      rw [← List.flatMap_append, List.take_append_drop]
    have hsz : ((L.take i).flatMap (·.2)).length + L[i].2.length < 1000000 := by
      rw [hsplit, List.length_append, hfm, List.length_append] at hLp
      omega
    rw [hfm, of_append _ _ (by omega)] at ih
    have hcnt : 0 < L[i].2.length := List.length_pos_iff.2 hG.some_
    have hgood := (good_of L[i].2 (by omega)).1
    have hprev : (i : Int) > 0 → ∃ h : i - 1 < L.length, (L[i - 1]'h).1 < L[i].1 := fun h => ⟨by omega, (List.pairwise_iff_getElem.1 hp) (i - 1) i (by omega) hlt (by omega)⟩
    obtain ⟨q, hq0, _, hq⟩ := hG.at_
    have hlo := hG.lo
    have hhi := hG.hi
    have hmod : Int.tmod (L[i].1 - a) step = 0 := by
      rw [show L[i].1 - a = q * step by omega]
      exact Int.mul_tmod_left q step
    generalize ofS ((L.take i).flatMap (·.2)) = s at ih ⊢
    clear hfm hsplit
    refine ev_succ (fun k => by rw [marigraphlaw12_AggWhole.l1]) ?_
    rw [hlen, hrd, w64 (x := (mkB L[i]).f0 - a) (by simp only [mkB]; omega) (by simp only [mkB]; omega)]
    have hj : Ev (fun k => marigraphlaw12_AggWhole.j2 k a b step true (L.map mkB) (L.flatMap (·.2)) (L.map mkB) (L.length : Int) (i : Int) (decide ((mkB L[i]).f1.f0 < 1)) s.f0 s.f1 s.f2 s.f3 s.f4 s.f5 (mkB L[i]).f0 (mkB L[i]).f1.f0 (mkB L[i]).f1.f1 (mkB L[i]).f1.f2 (mkB L[i]).f1.f3 (mkB L[i]).f1.f4 (mkB L[i]).f1.f5) true := by
      refine ev_succ (fun k => by rw [marigraphlaw12_AggWhole.j2]) ?_
      refine ev_neg ?_ (ev_const (join_is s (mkB L[i]).f1) ?_)
      · have : decide ((mkB L[i]).f1.f0 < 1) = false := decide_eq_false (by simp only [mkB]; omega)
        rw [this]; simp
      · rw [hwr]; exact ih
    refine ev_pos (by omega) (ev_pos (by omega) (ev_pos (by omega) (ev_neg (by omega) (ev_neg (by simp only [mkB]; omega) (ev_neg (by simp only [mkB]; omega) (ev_neg (by omega) (ev_pos (by simpa only [mkB] using hmod) ?_)))))))
    by_cases h0 : (i : Int) > 0
    · obtain ⟨hi1, hlt1⟩ := hprev h0
      have hrd1 : rd_T68 (L.map mkB) ((i - 1 : Nat) : Int) = mkB L[i - 1] := by rw [a_rdb _ (i - 1) (by simpa using hi1)]; simp
      rw [w64 (x := (i : Int) - 1) (by omega) (by omega), show (i : Int) - 1 = ((i - 1 : Nat) : Int) by omega, hrd1]
      exact ev_pos h0 (ev_pos (by omega) (ev_pos (by omega) (ev_neg (by simp only [mkB]; omega) hj)))
    · exact ev_neg h0 hj

theorem whole_in (a b step : Int) (B : List S68) (x : List S33) (hx : x.length < 1000000) (r : Bool) (hend : Ev (fun k => marigraphlaw12_AggWhole.l1 k a b step true B (x.filter (inR a b)) B (B.length : Int) 0 0 0 0 0 0 0) r) (d : Nat) :
    ∀ (i : Nat), x.length - i = d → i ≤ x.length → Ev (fun k => marigraphlaw12_AggWhole.l0 k a b step true B ((x.take i).filter (inR a b)) x (x.length : Int) (i : Int)) r := by
  induction d with
  | zero =>
    intro i hd hi
    obtain rfl : i = x.length := by omega
    rw [List.take_length]
    refine ev_succ (fun k => by rw [marigraphlaw12_AggWhole.l0]) ?_
    exact ev_neg (by omega) hend
  | succ d ih =>
    intro i hd hi
    have hlt : i < x.length := by omega
    have hwr : wrap64 ((i : Int) + 1) = ((i + 1 : Nat) : Int) := by rw [w64 (by omega) (by omega)]; omega
    have ih := ih (i + 1) (by omega) (by omega)
    have hfl : ((x.take i).filter (inR a b)).length ≤ i := Nat.le_trans (List.length_filter_le _ _) (by simp; omega)
    rw [List.take_succ_eq_append_getElem hlt, List.filter_append] at ih
    refine ev_succ (fun k => by rw [marigraphlaw12_AggWhole.l0]) ?_
    rw [a_rd x i hlt, hwr]
    generalize (x.take i).filter (inR a b) = F at ih hfl ⊢
    refine ev_pos (by omega) (ev_pos (by omega) (ev_pos (by omega) ?_))
    by_cases h1 : x[i].f0 ≥ a
    · refine ev_pos h1 ?_
      by_cases h2 : x[i].f0 < b
      · have e : List.filter (inR a b) [x[i]] = [x[i]] := by
          have : inR a b x[i] = true := by simp [inR, h2]; omega
          simp [this]
        rw [e] at ih
        exact ev_pos h2 (ev_pos (by omega) ih)
      · have e : List.filter (inR a b) [x[i]] = [] := by
          have : inR a b x[i] = false := by simp [inR]; omega
          simp [this]
        rw [e, List.append_nil] at ih
        exact ev_neg h2 ih
    · have e : List.filter (inR a b) [x[i]] = [] := by
        have : inR a b x[i] = false := by simp [inR]; omega
        simp [this]
      rw [e, List.append_nil] at ih
      exact ev_neg h1 ih

theorem AggWhole : marigraphlaw12_AggWhole.Pure := by
  intro l a b step _ hwf _ _ _
  refine Ev.rounds ?_
  unfold marigraphlaw12_AggWhole.f
  obtain ⟨x, hx, hxl, hm⟩ := a_few l
  have hbu := buckets_ev x a b step (by omega)
  refine ev_bind a_shown_ev (ev_const hx (ev_bind hbu ?_))
  unfold bucR
  by_cases hc : ris x = true ∧ a < b ∧ 1 ≤ step ∧ (-1152921504606846976 ≤ a ∧ a ≤ 1152921504606846976) ∧ (-1152921504606846976 ≤ b ∧ b ≤ 1152921504606846976)
  · rw [if_pos hc]
    by_cases hf : (b - a - 1) / step ≥ 200
    · rw [if_pos hf]
      exact ev_neg (by decide) (ev_pos rfl (Ev.now _))
    · rw [if_neg hf]
      obtain ⟨h1, h2, h3, h4, h5⟩ := hc
      have hr := ris_rising x h1
      have hgs := @grs a b step h3 x
      have hgi := grs_inc (a := a) (b := b) h3 x hr
      have hgf := grs_few (a := a) (b := b) h3 x hr (by omega)
      have hj := grp_join (bkey a step) (x.filter (inR a b))
      have hfl := List.length_filter_le (inR a b) x
      have hw := whole_fold h3 h4.1 h5.2 (grp (bkey a step) (x.filter (inR a b))) hgs hgi hgf (by rw [hj]; omega) _ 0 rfl (Nat.zero_le _)
      rw [hj] at hw
      refine ev_pos rfl (ev_const hx ?_)
      have := whole_in a b step (bks a b step x) x (by omega) true (by unfold bks; rw [List.length_map]; exact hw) _ 0 rfl (Nat.zero_le _)
      exact this
  · rw [if_neg hc]
    exact ev_neg (by decide) (ev_pos rfl (Ev.now _))
end Go.Proofs.Ytjkpdjadbeidnaa.Pure
