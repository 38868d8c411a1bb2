/- The reference's rollup comes to the same groups. -/
import Derived.Test.YtjkpdjadbeidnaaPAr
import Derived.Test.YtjkpdjadbeidnaaX21
import Derived.Test.YtjkpdjadbeidnaaX26
namespace Go.Proofs.Ytjkpdjadbeidnaa.Pure
open Go.RowKit Go.Proofs.Ytjkpdjadbeidnaa.X Go.Proofs.Ytjkpdjadbeidnaa.Pl Go.Proofs.YtjkpdjadbeidnaaW.PrintWords Go.Proofs.YtjkpdjadbeidnaaW.PrintLast Go.Proofs.YtjkpdjadbeidnaaW.PrintMore

theorem near_is (t : Int) : marigraphref12_near.f t = some (decide (-1152921504606846976 ≤ t) && decide (t ≤ 1152921504606846976)) := by
  unfold marigraphref12_near.f
  by_cases h : t ≥ -1152921504606846976
  · rw [if_pos h]; simp only [ge_iff_le] at h; simp [h]
  · rw [if_neg h]; simp only [ge_iff_le] at h; simp [h]
theorem floor_is {step : Int} (hs : 1 ≤ step) (hs2 : step ≤ 1099511627776) (p : S33) (hp : -1152921504606846976 ≤ p.f0 ∧ p.f0 ≤ 1152921504606846976) : marigraphref12_floor.f p.f0 step = some (flo step p) := by
  have hr := @tmod_range p.f0 step (by omega)
  have hi := @tmod_if p.f0 step (by omega)
  unfold marigraphref12_floor.f
  rw [if_neg (by omega)]
  by_cases hn : Int.tmod p.f0 step < 0
  · rw [if_pos hn, w64 (x := Int.tmod p.f0 step + step) (by omega) (by omega)]
    rw [if_pos hn] at hi
    rw [hi, w64 (by omega) (by omega)]; rfl
  · rw [if_neg hn]
    rw [if_neg hn] at hi
    rw [hi, w64 (by omega) (by omega)]; rfl
theorem field_is (s : S50) {what : Int} (h0 : 0 ≤ what) (h5 : what ≤ 5) : marigraphref12_field.f s.f0 s.f1 s.f2 s.f3 s.f4 s.f5 what = some (fld what s) := by
  unfold marigraphref12_field.f
  simp only [Option.bind_some]
  rw [if_pos h0, if_pos (by simp; omega)]
  rfl
def inR (a b : Int) (p : S33) : Bool := decide (a ≤ p.f0) && decide (p.f0 < b)
theorem within_ev (l : List S33) (a b : Int) (hl : l.length < 1000000) : Ev (fun k => marigraphref12_Within.f k l a b) (l.filter (inR a b)) := by
  have go : ∀ (d i : Nat) (out : List S33), l.length - i = d → i ≤ l.length → out.length ≤ i → Ev (fun k => marigraphref12_Within.l0 k l a b out (i : Int)) (out ++ (l.drop i).filter (inR a b)) := by
    intro d
    induction d with
    | zero =>
      intro i out hd hi _
      have hi : i = l.length := by omega
      subst hi
      simp only [List.drop_length, List.filter_nil, List.append_nil]
      exact ev_stop fun k => by rw [marigraphref12_Within.l0, if_neg (by omega)]
    | succ d ih =>
      intro i out hd hi ho
      have hlt : i < l.length := by omega
      have hwr : wrap64 ((i : Int) + 1) = ((i + 1 : Nat) : Int) := by rw [w64 (by omega) (by omega)]; omega
      refine ev_succ (fun k => by rw [marigraphref12_Within.l0]) ?_
      rw [a_rd l i hlt, hwr, List.drop_eq_getElem_cons hlt, List.filter_cons]
      refine ev_pos (by omega) (ev_pos (by omega) ?_)
      by_cases h1 : l[i].f0 ≥ a
      · refine ev_pos h1 ?_
        by_cases h2 : l[i].f0 < b
        · refine ev_pos h2 (ev_pos (by omega) ?_)
          have hb : inR a b l[i] = true := by simp [inR, h2]; omega
          rw [if_pos hb]
          have := ih (i + 1) (out ++ [l[i]]) (by omega) (by omega) (by simp; omega)
          rw [List.append_assoc] at this
          exact this
        · have hb : ¬ inR a b l[i] = true := by simp [inR, h2]
          rw [if_neg hb]
          exact ev_neg h2 (ih (i + 1) out (by omega) (by omega) (by omega))
      · have hb : ¬ inR a b l[i] = true := by simp [inR]; omega
        rw [if_neg hb]
        exact ev_neg h1 (ih (i + 1) out (by omega) (by omega) (by omega))
  have := go _ 0 [] rfl (Nat.zero_le _) (by simp)
  rw [List.drop_zero, List.nil_append] at this
  exact this

/-- What a step's points come to, out of all points. -/
def atK (step what : Int) (l : List S33) (k : Int) : Int := fld what (ofS (l.filter (inR k (k + step))))
def mkK (step what : Int) (l : List S33) (x : Int × List S33) : S33 := ⟨x.1, atK step what l x.1⟩
theorem rolled_atK {step what : Int} (hs : 1 ≤ step) (l : List S33) (hr : Rising l) : (grp (flo step) l).map (mkK step what l) = rolled step what l := by
  unfold rolled
  refine List.map_congr_left fun x hx => ?_
  have hf := grp_filter (flo step) l (rising_flo hs hr) x.1 x.2 hx
  obtain ⟨hne, hk⟩ := grp_each (flo step) l x.1 x.2 hx
  obtain ⟨q, hq⟩ := List.exists_mem_of_ne_nil _ hne
  have hkq := hk q hq
  unfold mkK atK
  have : l.filter (inR x.1 (x.1 + step)) = l.filter (fun p => decide (flo step p = x.1)) := by
    refine List.filter_congr fun p _ => ?_
    unfold inR
    rw [Bool.eq_iff_iff]
    simp only [Bool.and_eq_true, decide_eq_true_eq]
    constructor
    · intro h
      rw [← hkq]
      exact flo_same q p (by rw [hkq]; exact h.1) (by rw [hkq]; exact h.2)
    · intro h
      have := flo_range hs p
      omega
  rw [this, hf]

theorem last_get {α : Type} (l : List α) (x d : α) : (l ++ [x]).getD l.length d = x := by
  rw [getD_lt _ _ _ (by simp)]; simp

theorem ref_roll_loop {step what : Int} (hs : 1 ≤ step) (hs2 : step ≤ 1099511627776) (hw0 : 0 ≤ what) (hw : what ≤ 5) (l : List S33) (hwf : wfP l) (hl : l.length < 1000000) (hfar : ∀ p ∈ l, -1152921504606846976 ≤ p.f0 ∧ p.f0 ≤ 1152921504606846976) (d : Nat) :
    ∀ (i : Nat), l.length - i = d → i ≤ l.length → (grp (flo step) (l.take i)).length ≤ i → Ev (fun k => marigraphref12_Rollup.l1 k l step what ((grp (flo step) (l.take i)).map (mkK step what l)) (i : Int)) ((grp (flo step) l).map (mkK step what l), 0) := by
  induction d with
  | zero =>
    intro i h1 h2 _
    have hi : i = l.length := by omega
    subst hi
    rw [List.take_length]
    exact ev_stop fun k => by rw [marigraphref12_Rollup.l1, if_neg (by omega)]
  | succ d ih =>
    intro i h1 h2 h3
    have hlt : i < l.length := by omega
    have hwr : wrap64 ((i : Int) + 1) = ((i + 1 : Nat) : Int) := by rw [w64 (by omega) (by omega)]; omega
    have hpi := hfar _ (List.getElem_mem hlt)
    have hfr := flo_range hs l[i]
    have htk : l.take (i + 1) = l.take i ++ [l[i]] := List.take_succ_eq_append_getElem hlt
    have ih := ih (i + 1) (by omega) (by omega)
    rw [htk] at ih
    refine ev_succ (fun k => by rw [marigraphref12_Rollup.l1]) ?_
    rw [a_rd l i hlt]
    refine ev_pos (by omega) (ev_pos (by omega) (ev_const (floor_is hs hs2 _ hpi) ?_))
    rcases grp_snoc (flo step) l[i] (l.take i) with ⟨r, g, e1, e2⟩ | ⟨n1, e2⟩
    · have m1 : (r ++ [(flo step l[i], g)]).map (mkK step what l) = r.map (mkK step what l) ++ [mkK step what l (flo step l[i], g)] := by simp
      have m2 : (r ++ [(flo step l[i], g ++ [l[i]])]).map (mkK step what l) = r.map (mkK step what l) ++ [mkK step what l (flo step l[i], g)] := by simp [mkK]
      rw [e1] at h3 ⊢
      rw [e2, m2] at ih
      rw [m1]
      have h3' : r.length + 1 ≤ i := by simpa using h3
      have ih := ih (by simp; omega)
      generalize hX : mkK step what l (flo step l[i], g) = X at ih ⊢
      have hX0 : X.f0 = flo step l[i] := by rw [← hX]; rfl
      generalize hR : r.map (mkK step what l) = R at ih ⊢
      have hRl : R.length = r.length := by rw [← hR]; simp
      clear hX hR m1 m2 e1 e2
      have hlen : ((R ++ [X]).length : Int) = (R.length : Int) + 1 := by simp
      have hrd : rd_T33 (R ++ [X]) (R.length : Int) = X := by
        unfold rd_T33; rw [Int.toNat_natCast, last_get]
      rw [hlen, w64 (x := (R.length : Int) + 1 - 1) (by omega) (by omega), show (R.length : Int) + 1 - 1 = (R.length : Int) by omega, hrd, hX0]
      refine ev_pos (by omega) (ev_pos (by omega) (ev_pos (by omega) ?_))
      refine ev_succ (fun k => by rw [marigraphref12_Rollup.j3]) ?_
      refine ev_pos (by simp) ?_
      rw [hwr]
      exact ih
    · rw [e2] at ih
      simp only [List.map_append, List.map_cons, List.map_nil, List.length_append, List.length_cons, List.length_nil] at ih
      generalize hG : grp (flo step) (l.take i) = G at *
      have hj : Ev (fun k => marigraphref12_Rollup.j3 k l step what (G.map (mkK step what l)) (i : Int) (flo step l[i]) false) ((grp (flo step) l).map (mkK step what l), 0) := by
        refine ev_succ (fun k => by rw [marigraphref12_Rollup.j3]) ?_
        refine ev_neg (by simp) ?_
        rw [w64 (x := flo step l[i] + step) (by omega) (by omega), hwr]
        have hwf' : wfP (l.filter (inR (flo step l[i]) (flo step l[i] + step))) := fun p hp => hwf p ((List.mem_filter.1 hp).1)
        have hl' : (l.filter (inR (flo step l[i]) (flo step l[i] + step))).length < 9223372036854775807 := Nat.lt_of_le_of_lt (List.length_filter_le _ _) (by omega)
        refine ev_bind (within_ev l _ _ hl) (ev_bind (ref_of_ev _ hwf' hl') (ev_const (field_is _ hw0 hw) (ev_pos (by simp; omega) ?_)))
        exact ih (by omega)
      rcases List.eq_nil_or_concat G with rfl | ⟨D, x, rfl⟩
      · exact ev_neg (by simp) hj
      · rw [List.concat_eq_append] at hj n1 h3 ⊢
        have hx : x.1 ≠ flo step l[i] := n1 x (by simp)
        have hlen : (((D ++ [x]).map (mkK step what l)).length : Int) = (D.length : Int) + 1 := by simp
        have hrd : rd_T33 ((D ++ [x]).map (mkK step what l)) (D.length : Int) = mkK step what l x := by
          rw [List.map_append]
          unfold rd_T33
          rw [Int.toNat_natCast, show D.length = (D.map (mkK step what l)).length by simp]
          exact last_get _ _ _
        have hdl : D.length < 1000000 := by simp at h3; omega
        rw [hlen, w64 (x := (D.length : Int) + 1 - 1) (by omega) (by omega), show (D.length : Int) + 1 - 1 = (D.length : Int) by omega, hrd]
        refine ev_pos (by omega) (ev_pos (by omega) (ev_pos (by omega) ?_))
        have : ((mkK step what l x).f0 == flo step l[i]) = false := by simpa [mkK] using hx
        rw [this]
        exact hj

theorem ref_rollup_ev (l : List S33) (step what : Int) (hw0 : 0 ≤ what) (hwf : wfP l) (hl : l.length < 1000000) : Ev (fun k => marigraphref12_Rollup.f k l step what) (rollR l step what) := by
  have hbad : ∀ b : Bool, b = true → ¬ (ris l = true ∧ 1 ≤ step ∧ step ≤ 1099511627776 ∧ what ≤ 5 ∧ l.any far = false) → Ev (fun k => marigraphref12_Rollup.j0 k l step what b) (rollR l step what) := by
    intro b hb hn
    unfold rollR
    rw [if_neg hn]
    exact ev_stop fun k => by rw [marigraphref12_Rollup.j0, if_pos hb]
  have hnear : ∀ (r : List S33 × Int), (l.any far = true → r = ([], 1)) → (l.any far = false → Ev (fun k => marigraphref12_Rollup.l1 k l step what [] 0) r) → Ev (fun k => marigraphref12_Rollup.l0 k l step what 0) r := by
    intro r hb hg
    have go : ∀ (d i : Nat), l.length - i = d → i ≤ l.length → (l.take i).any far = false → Ev (fun k => marigraphref12_Rollup.l0 k l step what (i : Int)) r := by
      intro d
      induction d with
      | zero =>
        intro i hd hi ha
        have hi : i = l.length := by omega
        subst hi
        rw [List.take_length] at ha
        refine ev_succ (fun k => by rw [marigraphref12_Rollup.l0]) ?_
        exact ev_neg (by omega) (hg ha)
      | succ d ih =>
        intro i hd hi ha
        have hlt : i < l.length := by omega
        have hwr : wrap64 ((i : Int) + 1) = ((i + 1 : Nat) : Int) := by rw [w64 (by omega) (by omega)]; omega
        refine ev_succ (fun k => by rw [marigraphref12_Rollup.l0]) ?_
        rw [a_rd l i hlt, hwr]
        refine ev_pos (by omega) (ev_pos (by omega) (ev_const (near_is _) ?_))
        by_cases hf : far l[i] = true
        · refine ev_neg ?_ (ev_eq (Ev.now _) (hb ?_).symm)
          · simp only [far, Bool.or_eq_true, decide_eq_true_eq] at hf
            simp only [Bool.and_eq_true, decide_eq_true_eq]
            omega
          · exact List.any_eq_true.2 ⟨l[i], List.getElem_mem hlt, hf⟩
        · refine ev_pos ?_ (ih (i + 1) (by omega) (by omega) ?_)
          · simp only [far, Bool.or_eq_true, decide_eq_true_eq] at hf
            simp only [Bool.and_eq_true, decide_eq_true_eq]
            omega
          · rw [List.take_succ_eq_append_getElem hlt, List.any_append, ha]
            simpa using hf
    exact go _ 0 rfl (Nat.zero_le _) (by simp)
  unfold marigraphref12_Rollup.f
  refine ev_bind (ref_right_ev l (by omega)) ?_
  by_cases h1 : ris l = true
  · refine ev_pos h1 ?_
    by_cases h2 : step < 1
    · exact ev_pos h2 (hbad _ rfl (by omega))
    · refine ev_neg h2 ?_
      by_cases h3 : step > 1099511627776
      · exact ev_pos h3 (hbad _ rfl (by omega))
      · refine ev_neg h3 ?_
        by_cases h4 : what > 5
        · rw [decide_eq_true h4]
          exact hbad _ rfl (by omega)
        · rw [decide_eq_false h4]
          refine ev_succ (fun k => by rw [marigraphref12_Rollup.j0]) ?_
          refine ev_neg (by simp) (hnear _ ?_ ?_)
          · intro h5
            unfold rollR
            rw [if_neg (fun h => by rw [h5] at h; simp at h)]
          · intro h5
            unfold rollR
            rw [if_pos ⟨h1, by omega, by omega, by omega, h5⟩]
            have := ref_roll_loop (by omega : 1 ≤ step) (by omega) hw0 (by omega : what ≤ 5) l hwf hl (far_any h5) _ 0 rfl (Nat.zero_le _) (by simp [grp])
            rw [rolled_atK (by omega) l (ris_rising l h1)] at this
            exact this
  · exact ev_neg h1 (hbad _ rfl (fun h => h1 h.1))
theorem wfu8 {x : Int} (h : (Lit.int .u8 x).wf = true) : 0 ≤ x ∧ x ≤ 255 := by
  simpa [Lit.wf, IntKind.min, IntKind.max, IntKind.signed, IntKind.bits] using h
theorem grp_length {α : Type} (κ : α → Int) : ∀ (l : List α), (grp κ l).length ≤ l.length
  | [] => by simp [grp]
  | p :: l => by
    have ih := grp_length κ l
    rw [grp_cons]
    cases hg : grp κ l with
    | nil => simp
    | cons x r =>
      obtain ⟨k, g⟩ := x
      rw [hg] at ih
      simp only
      split <;> simp at * <;> omega
theorem rollR_length (l : List S33) (step what : Int) : (rollR l step what).1.length ≤ l.length := by
  unfold rollR
  split
  · simp only [rolled, List.length_map]; exact grp_length _ _
  · simp
end Go.Proofs.Ytjkpdjadbeidnaa.Pure
