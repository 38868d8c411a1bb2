/- Buckets, of the package agg and of its reference, as groups of the points that lie between two times. -/
import Derived.Test.YtjkpdjadbeidnaaPAs
import Derived.Test.YtjkpdjadbeidnaaX31
import Derived.Test.YtjkpdjadbeidnaaX32
import Derived.Test.YtjkpdjadbeidnaaX33
namespace Go.Proofs.Ytjkpdjadbeidnaa.Pure
open Go.RowKit Go.Proofs.Ytjkpdjadbeidnaa.X Go.Proofs.Ytjkpdjadbeidnaa.Pl Go.Proofs.YtjkpdjadbeidnaaW.PrintWords Go.Proofs.YtjkpdjadbeidnaaW.PrintLast Go.Proofs.YtjkpdjadbeidnaaW.PrintMore

def bkey (a step : Int) (p : S33) : Int := a + (p.f0 - a) / step * step
def mkB (x : Int × List S33) : S68 := ⟨x.1, ofS x.2⟩
def bks (a b step : Int) (l : List S33) : List S68 := (grp (bkey a step) (l.filter (inR a b))).map mkB
def bucR (l : List S33) (a b step : Int) : List S68 × Int :=
  if ris l = true ∧ a < b ∧ 1 ≤ step ∧ (-1152921504606846976 ≤ a ∧ a ≤ 1152921504606846976) ∧ (-1152921504606846976 ≤ b ∧ b ≤ 1152921504606846976) then
    (if (b - a - 1) / step ≥ 200 then ([], 3) else (bks a b step l, 0)) else ([], 1)
theorem bkey_range {a step : Int} (h : 1 ≤ step) (p : S33) : bkey a step p ≤ p.f0 ∧ p.f0 - step < bkey a step p := by
  have h1 := Int.emod_nonneg (p.f0 - a) (by omega : step ≠ 0)
  have h2 := Int.emod_lt_of_pos (p.f0 - a) (by omega : 0 < step)
  have h3 := Int.emod_add_mul_ediv (p.f0 - a) step
  rw [Int.mul_comm] at h3
  unfold bkey; omega
theorem bkey_at {a step : Int} (h : 1 ≤ step) (j : Int) (p : S33) (h1 : a + j * step ≤ p.f0) (h2 : p.f0 < a + j * step + step) : bkey a step p = a + j * step := by
  have e : p.f0 - a = (p.f0 - a - j * step) + j * step := by omega
  unfold bkey
  rw [e, Int.add_mul_ediv_right _ _ (by omega), Int.ediv_eq_zero_of_lt (by omega) (by omega), Int.zero_add]
theorem bkey_code {a step : Int} (h : 1 ≤ step) (p : S33) (ha : -1152921504606846976 ≤ a) (hp : a ≤ p.f0) (hp2 : p.f0 ≤ 1152921504606846976) : wrap64 (a + wrap64 (wrap64 (Int.tdiv (wrap64 (p.f0 - a)) step) * step)) = bkey a step p := by
  have h1 := Int.emod_nonneg (p.f0 - a) (by omega : step ≠ 0)
  have h3 := Int.emod_add_mul_ediv (p.f0 - a) step
  rw [Int.mul_comm] at h3
  have h4 : 0 ≤ (p.f0 - a) / step := Int.ediv_nonneg (by omega) (by omega)
  have h5 : (p.f0 - a) / step ≤ p.f0 - a := Int.ediv_le_self _ (by omega)
  have h6 : 0 ≤ (p.f0 - a) / step * step := Int.mul_nonneg h4 (by omega)
  unfold bkey
  rw [w64 (x := p.f0 - a) (by omega) (by omega), Int.tdiv_eq_ediv_of_nonneg (by omega), w64 (x := (p.f0 - a) / step) (by omega) (by omega), w64 (x := (p.f0 - a) / step * step) (by omega) (by omega), w64 (by omega) (by omega)]

theorem buc_loop {a b step : Int} (hs : 1 ≤ step) (ha : -1152921504606846976 ≤ a) (hb : b ≤ 1152921504606846976) (l : List S33) (hl : l.length < 1000000) (d : Nat) :
    ∀ (i : Nat), l.length - i = d → i ≤ l.length → (grp (bkey a step) ((l.take i).filter (inR a b))).length ≤ i → Ev (fun k => agg_Buckets.l0 k a b step ((grp (bkey a step) ((l.take i).filter (inR a b))).map mkB) l (l.length : Int) (i : Int)) (bks a b step l, 0) := by
  induction d with
  | zero =>
    intro i h1 h2 _
    have hi : i = l.length := by omega
    subst hi
    rw [List.take_length]
    exact ev_stop fun k => by rw [agg_Buckets.l0, if_neg (by omega)]; rfl
  | succ d ih =>
    intro i h1 h2 h3
    have hlt : i < l.length := by omega
    have hwr : wrap64 ((i : Int) + 1) = ((i + 1 : Nat) : Int) := by rw [w64 (by omega) (by omega)]; omega
    have htk : l.take (i + 1) = l.take i ++ [l[i]] := List.take_succ_eq_append_getElem hlt
    have ih := ih (i + 1) (by omega) (by omega)
    rw [htk, List.filter_append] at ih
    refine ev_succ (fun k => by rw [agg_Buckets.l0]) ?_
    rw [a_rd l i hlt]
    generalize hF : (l.take i).filter (inR a b) = F at h3 ih ⊢
    generalize l[i] = p at ih ⊢
    refine ev_pos (by omega) (ev_pos (by omega) (ev_pos (by omega) ?_))
    have hskip : inR a b p = false → ∀ c : Bool, c = true → Ev (fun k => agg_Buckets.j2 k a b step ((grp (bkey a step) F).map mkB) l (l.length : Int) (i : Int) c p.f0 p.f1) (bks a b step l, 0) := by
      intro hp c hc
      subst hc
      refine ev_succ (fun k => by rw [agg_Buckets.j2]) ?_
      refine ev_pos rfl ?_
      rw [hwr]
      have e : List.filter (inR a b) [p] = [] := by simp [hp]
      rw [e, List.append_nil] at ih
      exact ih (by omega)
    by_cases hlo : p.f0 < a
    · exact ev_pos hlo (hskip (by simp [inR]; omega) _ rfl)
    · refine ev_neg hlo ?_
      by_cases hhi : p.f0 ≥ b
      · exact hskip (by simp [inR]; omega) _ (by simpa using hhi)
      · have hin : inR a b p = true := by simp [inR]; omega
        have e : List.filter (inR a b) [p] = [p] := by simp [hin]
        rw [e] at ih
        clear hskip e hin hF htk
        refine ev_succ (fun k => by rw [agg_Buckets.j2]) ?_
        refine ev_neg (by simpa using hhi) (ev_neg (by omega) ?_)
        rw [bkey_code hs p ha (by omega) (by omega)]
        rcases grp_snoc (bkey a step) p F with ⟨r, g, e1, e2⟩ | ⟨n1, e2⟩
        · have m1 : (r ++ [(bkey a step p, g)]).map mkB = r.map mkB ++ [⟨bkey a step p, ofS g⟩] := by simp [mkB]
          have m2 : (r ++ [(bkey a step p, g ++ [p])]).map mkB = r.map mkB ++ [⟨bkey a step p, joinS (ofS g) (oneS p)⟩] := by simp [mkB, of_snoc]
          rw [e1] at h3 ⊢
          rw [e2, m2] at ih
          rw [m1]
          have h3' : r.length + 1 ≤ i := by simpa using h3
          have ih := ih (by simp; omega)
          generalize hR : r.map mkB = R at ih ⊢
          have hRl : R.length = r.length := by rw [← hR]; simp
          generalize bkey a step p = K at ih ⊢
          generalize ofS g = s at ih ⊢
          clear hR m1 m2 e1 e2
          have hlen : ((R ++ [(⟨K, s⟩ : S68)]).length : Int) = (R.length : Int) + 1 := by simp
          have hrd : rd_T68 (R ++ [⟨K, s⟩]) (R.length : Int) = ⟨K, s⟩ := by
            unfold rd_T68; rw [Int.toNat_natCast, last_get]
          rw [hlen, w64 (x := (R.length : Int) + 1 - 1) (by omega) (by omega), show (R.length : Int) + 1 - 1 = (R.length : Int) by omega, hrd]
          refine ev_pos (by omega) (ev_pos (by omega) (ev_pos (by omega) ?_))
          refine ev_succ (fun k => by rw [agg_Buckets.j3]) ?_
          rw [hlen, hrd, hwr]
          refine ev_pos (by simp) (ev_pos (by omega) (ev_pos (by omega) (ev_const (one_is p) (ev_const (join_is s (oneS p)) ?_))))
          have hset : (R ++ [(⟨K, s⟩ : S68)]).set (R.length : Int).toNat ⟨K, joinS s (oneS p)⟩ = R ++ [⟨K, joinS s (oneS p)⟩] := by
            rw [Int.toNat_natCast, List.set_append_right _ _ (Nat.le_refl _)]; simp
          exact (congrArg (fun z => Ev (fun k => agg_Buckets.l0 k a b step z l (l.length : Int) ((i + 1 : Nat) : Int)) (bks a b step l, 0)) hset).mpr ih
        · have m2 : (grp (bkey a step) F ++ [(bkey a step p, [p])]).map mkB = (grp (bkey a step) F).map mkB ++ [⟨bkey a step p, oneS p⟩] := by simp [mkB, of_one]
          rw [e2, m2] at ih
          generalize hG : grp (bkey a step) F = G at *
          have ih := ih (by simp; omega)
          have hj : ∀ z, Ev (fun k => agg_Buckets.j3 k a b step (G.map mkB) (bkey a step p) z l (l.length : Int) (i : Int) false p.f0 p.f1) (bks a b step l, 0) := by
            intro z
            refine ev_succ (fun k => by rw [agg_Buckets.j3]) ?_
            rw [hwr]
            refine ev_neg (by simp) (ev_const (one_is p) (ev_pos (by simp; omega) ?_))
            exact ih
          rcases List.eq_nil_or_concat G with rfl | ⟨D, x, rfl⟩
          · refine ev_neg ?_ (hj _)
            rw [List.map_nil, List.length_nil, w64 (by omega) (by omega)]; omega
          · rw [List.concat_eq_append] at hj n1 h3 ⊢
            have hx : x.1 ≠ bkey a step p := n1 x (by simp)
            have hlen : (((D ++ [x]).map mkB).length : Int) = (D.length : Int) + 1 := by simp
            have hrd : rd_T68 ((D ++ [x]).map mkB) (D.length : Int) = mkB x := by
              rw [List.map_append]
              unfold rd_T68
              rw [Int.toNat_natCast, show D.length = (D.map mkB).length by simp]
              exact last_get _ _ _
            have hdl : D.length < 1000000 := by simp at h3; omega
            rw [hlen, w64 (x := (D.length : Int) + 1 - 1) (by omega) (by omega), show (D.length : Int) + 1 - 1 = (D.length : Int) by omega, hrd]
            refine ev_pos (by omega) (ev_pos (by omega) (ev_pos (by omega) ?_))
            have : ((mkB x).f0 == bkey a step p) = false := by simpa [mkB] using hx
            rw [this]
            exact hj _

theorem div_code {a b step : Int} (hs : 1 ≤ step) (ha : -1152921504606846976 ≤ a) (hb : b ≤ 1152921504606846976) (hab : a < b) : wrap64 (Int.tdiv (wrap64 (wrap64 (b - a) - 1)) step) = (b - a - 1) / step ∧ 0 ≤ (b - a - 1) / step ∧ (b - a - 1) / step ≤ b - a - 1 := by
  have h4 : 0 ≤ (b - a - 1) / step := Int.ediv_nonneg (by omega) (by omega)
  have h5 : (b - a - 1) / step ≤ b - a - 1 := Int.ediv_le_self _ (by omega)
  refine ⟨?_, h4, h5⟩
  rw [w64 (x := b - a) (by omega) (by omega), w64 (x := b - a - 1) (by omega) (by omega), Int.tdiv_eq_ediv_of_nonneg (by omega), w64 (by omega) (by omega)]

theorem buckets_ev (l : List S33) (a b step : Int) (hl : l.length < 1000000) : Ev (fun k => agg_Buckets.f k l a b step) (bucR l a b step) := by
  have hbad : ∀ c : Bool, c = true → ¬ (ris l = true ∧ a < b ∧ 1 ≤ step ∧ (-1152921504606846976 ≤ a ∧ a ≤ 1152921504606846976) ∧ (-1152921504606846976 ≤ b ∧ b ≤ 1152921504606846976)) → Ev (fun k => agg_Buckets.j0 k l a b step c) (bucR l a b step) := by
    intro c hc hn
    unfold bucR
    rw [if_neg hn]
    exact ev_stop fun k => by rw [agg_Buckets.j0, if_pos hc]
  unfold agg_Buckets.f
  refine ev_bind (right_ev l (by omega)) ?_
  by_cases h1 : ris l = true
  · refine ev_pos h1 ?_
    by_cases h2 : a ≥ b
    · exact ev_pos h2 (hbad _ rfl (by omega))
    · refine ev_neg h2 ?_
      by_cases h3 : step < 1
      · exact ev_pos h3 (hbad _ rfl (by omega))
      · refine ev_neg h3 (ev_const (bad_is a) ?_)
        by_cases h4 : a < -1152921504606846976 ∨ a > 1152921504606846976
        · exact ev_pos (by simpa using h4) (hbad _ rfl (by omega))
        · refine ev_neg (by simpa using h4) (ev_const (bad_is b) ?_)
          by_cases h5 : b < -1152921504606846976 ∨ b > 1152921504606846976
          · exact hbad _ (by simpa using h5) (by omega)
          · have hd := @div_code a b step (by omega) (by omega) (by omega) (by omega)
            refine ev_succ (fun k => by rw [agg_Buckets.j0]) ?_
            refine ev_neg (by simpa using h5) (ev_neg (by omega) ?_)
            rw [hd.1]
            unfold bucR
            rw [if_pos ⟨h1, by omega, by omega, by omega, by omega⟩]
            by_cases h6 : (b - a - 1) / step ≥ 200
            · rw [if_pos h6]; exact ev_pos h6 (Ev.now _)
            · rw [if_neg h6]
              refine ev_neg h6 ?_
              exact buc_loop (by omega) (by omega) (by omega) l hl _ 0 rfl (Nat.zero_le _) (by simp [grp])
  · exact ev_neg h1 (hbad _ rfl (fun h => h1 h.1))

theorem inR_split {l : List S33} (hr : Rising l) {w e b : Int} (h1 : w ≤ e) (h2 : e ≤ b) : l.filter (inR w b) = l.filter (inR w e) ++ l.filter (inR e b) := by
  induction l with
  | nil => rfl
  | cons p l ih =>
    have hr' := List.pairwise_cons.1 hr
    have ih := ih hr'.2
    rw [List.filter_cons, List.filter_cons, List.filter_cons]
    by_cases hp : inR w e p = true
    · have hb : inR w b p = true := by simp [inR] at hp ⊢; omega
      have he : ¬ inR e b p = true := by simp [inR] at hp ⊢; omega
      rw [if_pos hp, if_pos hb, if_neg he, ih, List.cons_append]
    · by_cases hq : inR e b p = true
      · have hb : inR w b p = true := by simp [inR] at hq ⊢; omega
        have hn : l.filter (inR w e) = [] := by
          rw [List.filter_eq_nil_iff]
          intro q hq'
          have := hr'.1 q hq'
          simp [inR] at hq ⊢
          omega
        rw [if_neg hp, if_pos hq, if_pos hb, ih, hn]; rfl
      · have hb : ¬ inR w b p = true := by simp [inR] at hp hq ⊢; omega
        rw [if_neg hp, if_neg hq, if_neg hb, ih]

theorem ref_buc_loop {a b step : Int} (hs : 1 ≤ step) (ha : -1152921504606846976 ≤ a) (hab : a < b) (hb : b ≤ 1152921504606846976) (l : List S33) (hwf : wfP l) (hl : l.length < 1000000) (hr : Rising l) (d : Nat) :
    ∀ (w : Int) (out : List S68), (b - w).toNat ≤ d → a ≤ w → w ≤ b → ((∃ j : Int, w = a + j * step) ∨ w = b) → out.length + (l.filter (inR w b)).length ≤ l.length → Ev (fun k => marigraphref12_Buckets.l0 k l b step out w) (out ++ (grp (bkey a step) (l.filter (inR w b))).map mkB, 0) := by
  have hend : ∀ (out : List S68), Ev (fun k => marigraphref12_Buckets.l0 k l b step out b) (out ++ (grp (bkey a step) (l.filter (inR b b))).map mkB, 0) := by
    intro out
    have : l.filter (inR b b) = [] := by rw [List.filter_eq_nil_iff]; intro p _; simp [inR]
    rw [this]
    simp only [grp, List.map_nil, List.append_nil]
    exact ev_stop fun k => by rw [marigraphref12_Buckets.l0, if_neg (by omega)]
  induction d with
  | zero =>
    intro w out hd h1 h2 _ _
    obtain rfl : w = b := by omega
    exact hend out
  | succ d ih =>
    intro w out hd h1 h2 hj ho
    by_cases hwb : w = b
    · subst hwb; exact hend out
    · obtain ⟨j, hj⟩ : ∃ j : Int, w = a + j * step := hj.resolve_right hwb
      have key : ∀ e : Int, w < e → e ≤ b → e ≤ w + step → (e = w + step ∨ e = b) → Ev (fun k => marigraphref12_Buckets.j2 k l b step out w e) (out ++ (grp (bkey a step) (l.filter (inR w b))).map mkB, 0) := by
        intro e he1 he2 he3 he4
        have hsp := inR_split hr (Int.le_of_lt he1) he2
        have hj' : (∃ j : Int, e = a + j * step) ∨ e = b := by
          rcases he4 with h | h
          · left; exact ⟨j + 1, by rw [Int.add_mul, Int.one_mul]; omega⟩
          · right; exact h
        rw [hsp, List.length_append] at ho
        rw [hsp]
        refine ev_succ (fun k => by rw [marigraphref12_Buckets.j2]) ?_
        refine ev_bind (within_ev l _ _ hl) ?_
        have hin : ∀ p ∈ l.filter (inR w e), w ≤ p.f0 ∧ p.f0 < e := by
          intro p hp
          have := (List.mem_filter.1 hp).2
          simp [inR] at this; omega
        have hin2 : ∀ p ∈ (l.filter (inR e b)).head?, bkey a step p ≠ w := by
          intro p hp
          have hp := List.mem_of_mem_head? hp
          have := (List.mem_filter.1 hp).2
          simp [inR] at this
          have := @bkey_range a step hs p
          omega
        have hwf' : wfP (l.filter (inR w e)) := fun p hp => hwf p ((List.mem_filter.1 hp).1)
        generalize hA : l.filter (inR w e) = A at ho hin hwf' ⊢
        generalize hB : l.filter (inR e b) = B at ho hin2 ⊢
        by_cases hne : A = []
        · subst hne
          refine ev_neg (by simp) ?_
          rw [List.nil_append, ← hB]
          exact ih e out (by omega) (by omega) he2 hj' (by rw [hB]; simp at ho; omega)
        · have hpos : 0 < A.length := by cases A <;> simp_all
          have hk : ∀ p ∈ A, bkey a step p = w := by
            intro p hp
            have := hin p hp
            rw [hj]
            exact bkey_at hs j p (by omega) (by omega)
          rw [grp_split (bkey a step) w A B hne hk hin2]
          refine ev_pos (by omega) (ev_bind (ref_of_ev _ hwf' (by omega)) (ev_pos (by omega) ?_))
          have := ih e (out ++ [⟨w, ofS A⟩]) (by omega) (by omega) he2 hj' (by rw [hB]; simp; omega)
          rw [hB, List.append_assoc] at this
          exact this
      refine ev_succ (fun k => by rw [marigraphref12_Buckets.l0]) ?_
      refine ev_pos (by omega) ?_
      rw [w64 (x := b - w) (by omega) (by omega)]
      by_cases hc : step < b - w
      · refine ev_pos hc ?_
        rw [w64 (x := w + step) (by omega) (by omega)]
        exact key _ (by omega) (by omega) (by omega) (Or.inl rfl)
      · exact ev_neg hc (key _ (by omega) (by omega) (by omega) (Or.inr rfl))

theorem ref_buckets_ev (l : List S33) (a b step : Int) (hwf : wfP l) (hl : l.length < 1000000) : Ev (fun k => marigraphref12_Buckets.f k l a b step) (bucR l a b step) := by
  have hbad : ∀ c : Bool, c = true → ¬ (ris l = true ∧ a < b ∧ 1 ≤ step ∧ (-1152921504606846976 ≤ a ∧ a ≤ 1152921504606846976) ∧ (-1152921504606846976 ≤ b ∧ b ≤ 1152921504606846976)) → Ev (fun k => marigraphref12_Buckets.j0 k l a b step c) (bucR l a b step) := by
    intro c hc hn
    unfold bucR
    rw [if_neg hn]
    exact ev_stop fun k => by rw [marigraphref12_Buckets.j0, if_pos hc]
  unfold marigraphref12_Buckets.f
  refine ev_bind (ref_right_ev l (by omega)) ?_
  by_cases h1 : ris l = true
  · refine ev_pos h1 ?_
    by_cases h2 : a ≥ b
    · exact ev_pos h2 (hbad _ rfl (by omega))
    · refine ev_neg h2 ?_
      by_cases h3 : step < 1
      · exact ev_pos h3 (hbad _ rfl (by omega))
      · refine ev_neg h3 (ev_const (near_is a) ?_)
        by_cases h4 : -1152921504606846976 ≤ a ∧ a ≤ 1152921504606846976
        · refine ev_pos (by simpa using h4) (ev_const (near_is b) ?_)
          by_cases h5 : -1152921504606846976 ≤ b ∧ b ≤ 1152921504606846976
          · have hd := @div_code a b step (by omega) (by omega) (by omega) (by omega)
            refine ev_succ (fun k => by rw [marigraphref12_Buckets.j0]) ?_
            refine ev_neg (by simp; omega) (ev_neg (by omega) ?_)
            rw [hd.1, w64 (x := (b - a - 1) / step + 1) (by omega) (by omega)]
            unfold bucR
            rw [if_pos ⟨h1, by omega, by omega, h4, h5⟩]
            by_cases h6 : (b - a - 1) / step ≥ 200
            · rw [if_pos h6]; exact ev_pos (by omega) (Ev.now _)
            · rw [if_neg h6]
              refine ev_neg (by omega) ?_
              have := ref_buc_loop (step := step) (by omega) (by omega) (by omega : a < b) (by omega) l hwf hl (ris_rising l h1) _ a [] (Nat.le_refl _) (by omega) (by omega) (Or.inl ⟨0, by omega⟩) (by simpa using List.length_filter_le _ _)
              rw [List.nil_append] at this
              exact this
          · refine hbad _ ?_ (fun h => h5 h.2.2.2.2)
            simp; omega
        · refine ev_neg (by simpa using h4) (hbad _ rfl (fun h => h4 h.2.2.2.1))
  · exact ev_neg h1 (hbad _ rfl (fun h => h1 h.1))

theorem a_same2 (l : List S68) (hl : l.length < 9223372036854775807) : Ev (fun k => marigraphref12_Same.f k l l) true := by
  have go : ∀ (d i : Nat), l.length - i = d → i ≤ l.length → Ev (fun k => marigraphref12_Same.l0 k l l (i : Int)) true := by
    intro d
    induction d with
    | zero =>
      intro i hd hi
      exact ev_stop fun k => by rw [marigraphref12_Same.l0, if_neg (by omega)]
    | succ d ih =>
      intro i hd hi
      refine ev_succ (fun k => by rw [marigraphref12_Same.l0]) ?_
      refine ev_pos (by omega) (ev_pos (by omega) (ev_pos (by omega) (ev_neg (by simp) ?_)))
      rw [w64 (by omega) (by omega)]
      exact ih (i + 1) (by omega) (by omega)
  unfold marigraphref12_Same.f
  exact ev_pos rfl (go _ 0 rfl (Nat.zero_le _))
theorem bucR_length (l : List S33) (a b step : Int) : (bucR l a b step).1.length ≤ l.length := by
  unfold bucR
  split
  · split
    · simp
    · simp only [bks, List.length_map]; exact Nat.le_trans (grp_length _ _) (List.length_filter_le _ _)
  · simp
end Go.Proofs.Ytjkpdjadbeidnaa.Pure
