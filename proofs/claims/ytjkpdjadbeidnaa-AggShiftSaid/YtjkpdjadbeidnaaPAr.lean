/- Points that rise; a rollup, of the package agg and of its reference, as groups of points. -/
import Derived.Test.YtjkpdjadbeidnaaPAh
import Derived.Test.YtjkpdjadbeidnaaX7
import Derived.Test.YtjkpdjadbeidnaaX13
import Derived.Test.YtjkpdjadbeidnaaX21
import Derived.Test.YtjkpdjadbeidnaaX26
namespace Go.Proofs.Ytjkpdjadbeidnaa.Pure
open Go.RowKit Go.Proofs.Ytjkpdjadbeidnaa.X Go.Proofs.Ytjkpdjadbeidnaa.Pl Go.Proofs.YtjkpdjadbeidnaaW.PrintWords Go.Proofs.YtjkpdjadbeidnaaW.PrintLast Go.Proofs.YtjkpdjadbeidnaaW.PrintMore

def ris : List S33 → Bool
  | [] => true
  | [_] => true
  | p :: q :: l => decide (p.f0 < q.f0) && ris (q :: l)
def Rising (l : List S33) : Prop := l.Pairwise (fun p q => p.f0 < q.f0)
theorem ris_rising : ∀ (l : List S33), ris l = true → Rising l
  | [], _ => List.Pairwise.nil
  | [p], _ => by simp [Rising]
  | p :: q :: l, h => by
    simp only [ris, Bool.and_eq_true, decide_eq_true_eq] at h
    have ih := ris_rising (q :: l) h.2
    refine List.Pairwise.cons (fun x hx => ?_) ih
    rcases List.mem_cons.1 hx with rfl | hx
    · exact h.1
    · exact Int.lt_trans h.1 ((List.pairwise_cons.1 ih).1 x hx)
theorem rising_ris : ∀ (l : List S33), Rising l → ris l = true
  | [], _ => rfl
  | [p], _ => rfl
  | p :: q :: l, h => by
    have h' := List.pairwise_cons.1 h
    simp only [ris, Bool.and_eq_true, decide_eq_true_eq]
    exact ⟨h'.1 q List.mem_cons_self, rising_ris (q :: l) h'.2⟩

theorem ris_drop (l : List S33) (i : Nat) (h : i + 1 < l.length) : ris (l.drop i) = (decide (l[i].f0 < l[i + 1].f0) && ris (l.drop (i + 1))) := by
  rw [List.drop_eq_getElem_cons (by omega : i < l.length), List.drop_eq_getElem_cons h, ris]
theorem ris_last (l : List S33) (i : Nat) (h : ¬ i + 1 < l.length) : ris (l.drop i) = true := by
  have : (l.drop i).length ≤ 1 := by rw [List.length_drop]; omega
  match hl : l.drop i with
  | [] => rfl
  | [p] => rfl
  | p :: q :: r => rw [hl] at this; simp at this

theorem right_loop (l : List S33) (hl : l.length < 9223372036854775807) (d : Nat) : ∀ i : Nat, l.length - (i + 1) = d → Ev (fun k => steps_Right.l0 k l (l.length : Int) ((i + 1 : Nat) : Int)) (ris (l.drop i)) := by
  induction d with
  | zero =>
    intro i hd
    rw [ris_last l i (by omega)]
    exact ev_stop fun k => by rw [steps_Right.l0, if_neg (by omega)]
  | succ d ih =>
    intro i hd
    have hlt : i + 1 < l.length := by omega
    have hwr : wrap64 (((i + 1 : Nat) : Int) + 1) = ((i + 1 + 1 : Nat) : Int) := by rw [w64 (by omega) (by omega)]; omega
    have hwm : wrap64 (((i + 1 : Nat) : Int) - 1) = ((i : Nat) : Int) := by rw [w64 (by omega) (by omega)]; omega
    refine ev_succ (fun k => by rw [steps_Right.l0]) ?_
    rw [hwr, hwm, a_rd l i (by omega), a_rd l (i + 1) hlt, ris_drop l i hlt]
    refine ev_pos (by omega) (ev_pos (by omega) (ev_pos (by omega) (ev_pos (by omega) (ev_pos (by omega) (ev_pos (by omega) ?_)))))
    by_cases hc : l[i].f0 ≥ l[i + 1].f0
    · refine ev_pos hc (ev_eq (Ev.now _) ?_)
      rw [decide_eq_false (by omega)]; rfl
    · refine ev_neg hc (ev_eq (ih (i + 1) (by omega)) ?_)
      rw [decide_eq_true (by omega)]; rfl
theorem right_ev (l : List S33) (hl : l.length < 9223372036854775807) : Ev (fun k => steps_Right.f k l) (ris l) := by
  unfold steps_Right.f
  by_cases h0 : l.length = 0
  · obtain rfl : l = [] := List.eq_nil_of_length_eq_zero h0
    exact ev_stop fun k => by rw [steps_Right.l0, if_neg (by simp)]; rfl
  · refine ev_succ (fun k => by rw [steps_Right.l0]) ?_
    refine ev_pos (by omega) (ev_neg (by omega) ?_)
    have := right_loop l hl _ 0 rfl
    rw [List.drop_zero] at this
    rw [show wrap64 (0 + 1) = ((0 + 1 : Nat) : Int) from w64 (by omega) (by omega)]
    exact this
theorem ref_right_loop (l : List S33) (hl : l.length < 9223372036854775807) (d : Nat) : ∀ i : Nat, l.length - (i + 1) = d → Ev (fun k => marigraphref04_Right.l0 k l ((i + 1 : Nat) : Int)) (ris (l.drop i)) := by
  induction d with
  | zero =>
    intro i hd
    rw [ris_last l i (by omega)]
    exact ev_stop fun k => by rw [marigraphref04_Right.l0, if_neg (by omega)]
  | succ d ih =>
    intro i hd
    have hlt : i + 1 < l.length := by omega
    have hwr : wrap64 (((i + 1 : Nat) : Int) + 1) = ((i + 1 + 1 : Nat) : Int) := by rw [w64 (by omega) (by omega)]; omega
    have hwm : wrap64 (((i + 1 : Nat) : Int) - 1) = ((i : Nat) : Int) := by rw [w64 (by omega) (by omega)]; omega
    refine ev_succ (fun k => by rw [marigraphref04_Right.l0]) ?_
    rw [hwr, hwm, a_rd l i (by omega), a_rd l (i + 1) hlt, ris_drop l i hlt]
    refine ev_pos (by omega) (ev_pos (by omega) (ev_pos (by omega) (ev_pos (by omega) ?_)))
    by_cases hc : l[i + 1].f0 ≤ l[i].f0
    · refine ev_pos hc (ev_eq (Ev.now _) ?_)
      rw [decide_eq_false (by omega)]; rfl
    · refine ev_neg hc (ev_eq (ih (i + 1) (by omega)) ?_)
      rw [decide_eq_true (by omega)]; rfl
theorem ref_right_ev (l : List S33) (hl : l.length < 9223372036854775807) : Ev (fun k => marigraphref04_Right.f k l) (ris l) := by
  have := ref_right_loop l hl _ 0 rfl
  rw [List.drop_zero] at this
  exact this

/-! ### Keys -/
def flo (step : Int) (p : S33) : Int := p.f0 - p.f0 % step
theorem flo_range {step : Int} (h : 1 ≤ step) (p : S33) : flo step p ≤ p.f0 ∧ p.f0 - step < flo step p := by
  have h1 := Int.emod_nonneg p.f0 (by omega : step ≠ 0)
  have h2 := Int.emod_lt_of_pos p.f0 (by omega : 0 < step)
  unfold flo; omega
theorem flo_mul (step : Int) (p : S33) : flo step p = step * (p.f0 / step) := by
  have := Int.emod_add_mul_ediv p.f0 step
  unfold flo; omega
/-- A time within the step that begins at another one's key has that key. -/
theorem flo_same {step : Int} (p q : S33) (h1 : flo step p ≤ q.f0) (h2 : q.f0 < flo step p + step) : flo step q = flo step p := by
  have e : q.f0 = (q.f0 - flo step p) + step * (p.f0 / step) := by rw [← flo_mul]; omega
  have : q.f0 % step = q.f0 - flo step p := by
    conv => lhs; rw [e]
    rw [Int.add_mul_emod_self_left, Int.emod_eq_of_lt (by omega) (by omega)]
  unfold flo at *; omega
theorem flo_mono {step : Int} (h : 1 ≤ step) (p q : S33) (hpq : p.f0 ≤ q.f0) : flo step p ≤ flo step q := by
  rw [flo_mul, flo_mul]
  exact Int.mul_le_mul_of_nonneg_left (Int.ediv_le_ediv (by omega) hpq) (by omega)

/-! ### Groups by a key that doesn't fall -/
section
variable {α : Type}
theorem grp_keys (κ : α → Int) : ∀ (l : List α), l.Pairwise (fun p q => κ p ≤ κ q) → (grp κ l).Pairwise (fun x y => x.1 < y.1)
  | [], _ => by simp [grp]
  | p :: l, h => by
    have h' := List.pairwise_cons.1 h
    have ih := grp_keys κ l h'.2
    have hge : ∀ x ∈ grp κ l, κ p ≤ x.1 := by
      intro x hx
      obtain ⟨hne, hk⟩ := grp_each κ l x.1 x.2 hx
      obtain ⟨q, hq⟩ := List.exists_mem_of_ne_nil _ hne
      rw [← hk q hq]
      refine h'.1 q ?_
      have := grp_join κ l
      rw [← this]
      exact List.mem_flatMap.2 ⟨x, hx, hq⟩
    rw [grp_cons]
    cases hg : grp κ l with
    | nil => simp
    | cons x r =>
      obtain ⟨k, g⟩ := x
      rw [hg] at ih hge
      have ih' := List.pairwise_cons.1 ih
      simp only
      split
      · rename_i e
        exact List.Pairwise.cons (fun y hy => ih'.1 y hy) ih'.2
      · rename_i e
        have := hge (k, g) List.mem_cons_self
        refine List.Pairwise.cons (fun y hy => ?_) ih
        rcases List.mem_cons.1 hy with rfl | hy
        · simp only at *; omega
        · have := ih'.1 y hy; simp only at *; omega
theorem flat_pick : ∀ (L : List (Int × List α)), L.Pairwise (fun x y => x.1 < y.1) → ∀ k g, (k, g) ∈ L → L.flatMap (fun x => if x.1 = k then x.2 else []) = g
  | (k', g') :: L, h, k, g, hm => by
    have h' := List.pairwise_cons.1 h
    have hnone : ∀ (M : List (Int × List α)), (∀ y ∈ M, y.1 ≠ k) → M.flatMap (fun x => if x.1 = k then x.2 else []) = [] := by
      intro M hM
      rw [List.flatMap_eq_nil_iff]
      intro y hy
      rw [if_neg (hM y hy)]
    rw [List.flatMap_cons]
    rcases List.mem_cons.1 hm with e | hm
    · injection e with e1 e2
      subst e1; subst e2
      rw [if_pos rfl, hnone L (fun y hy => by have := h'.1 y hy; simp only at this; omega), List.append_nil]
    · have := h'.1 (k, g) hm
      simp only at this
      rw [if_neg (by simp only; omega), List.nil_append]
      exact flat_pick L h'.2 k g hm
/-- A group is all of its key. -/
theorem grp_filter (κ : α → Int) (l : List α) (h : l.Pairwise (fun p q => κ p ≤ κ q)) (k : Int) (g : List α) (hm : (k, g) ∈ grp κ l) : l.filter (fun p => decide (κ p = k)) = g := by
  have e : l.filter (fun p => decide (κ p = k)) = (grp κ l).flatMap (fun x => if x.1 = k then x.2 else []) := by
    conv => lhs; rw [← grp_join κ l]
    rw [List.filter_flatMap]
    have : ∀ (M : List (Int × List α)), (∀ y ∈ M, ∀ p ∈ y.2, κ p = y.1) → M.flatMap (fun x => x.2.filter (fun p => decide (κ p = k))) = M.flatMap (fun x => if x.1 = k then x.2 else []) := by
      intro M hM
      induction M with
      | nil => rfl
      | cons y M ih =>
        rw [List.flatMap_cons, List.flatMap_cons, ih (fun z hz => hM z (List.mem_cons_of_mem _ hz))]
        congr 1
        have hy := hM y List.mem_cons_self
        split
        · rename_i e
          exact List.filter_eq_self.2 (fun p hp => by rw [hy p hp, e]; simp)
        · rename_i e
          exact List.filter_eq_nil_iff.2 (fun p hp => by rw [hy p hp]; simpa using e)
    exact this _ (fun y hy => (grp_each κ l y.1 y.2 hy).2)
  rw [e]
  exact flat_pick _ (grp_keys κ l h) k g hm
end
theorem rising_flo {step : Int} (h : 1 ≤ step) {l : List S33} (hr : Rising l) : l.Pairwise (fun p q => flo step p ≤ flo step q) :=
  hr.imp (fun hpq => flo_mono h _ _ (Int.le_of_lt hpq))

/-! ### A rollup -/
def fld (what : Int) (s : S50) : Int := rd [s.f0, s.f1, s.f2, s.f3, s.f4, s.f5] what
def far (p : S33) : Bool := decide (p.f0 < -1152921504606846976) || decide (p.f0 > 1152921504606846976)
/-- One point for each step. -/
def rolled (step what : Int) (l : List S33) : List S33 := (grp (flo step) l).map (fun x => ⟨x.1, fld what (ofS x.2)⟩)
/-- What a rollup comes to. -/
def rollR (l : List S33) (step what : Int) : List S33 × Int := if ris l = true ∧ 1 ≤ step ∧ step ≤ 1099511627776 ∧ what ≤ 5 ∧ l.any far = false then (rolled step what l, 0) else ([], 1)

def roll (step what : Int) : S50 → List S33 → List S33
  | _, [] => []
  | s, [p] => [⟨flo step p, fld what (joinS s (oneS p))⟩]
  | s, p :: q :: l => if q.f0 - flo step p < step then roll step what (joinS s (oneS p)) (q :: l) else ⟨flo step p, fld what (joinS s (oneS p))⟩ :: roll step what zS (q :: l)

theorem roll_grp {step what : Int} (hs : 1 ≤ step) : ∀ (l g0 : List S33), Rising l → g0.length + l.length < 9223372036854775807 → roll step what (ofS g0) l = match grp (flo step) l with | [] => [] | (k, g) :: r => ⟨k, fld what (ofS (g0 ++ g))⟩ :: r.map (fun x => ⟨x.1, fld what (ofS x.2)⟩)
  | [], g0, _, _ => by simp [roll, grp]
  | [p], g0, _, _ => by simp [roll, grp, of_snoc]
  | p :: q :: l, g0, hr, hl => by
    have hr' := List.pairwise_cons.1 hr
    have hpq := hr'.1 q List.mem_cons_self
    have h1 := flo_range hs p
    obtain ⟨g, r, e⟩ := grp_head (flo step) q l
    rw [roll, grp_cons, e, ← of_snoc]
    simp only [List.length_cons] at hl
    by_cases hc : q.f0 - flo step p < step
    · have hk := flo_same (step := step) p q (by omega) (by omega)
      rw [if_pos hc]
      simp only
      rw [if_pos hk]
      have ih := roll_grp (what := what) hs (q :: l) (g0 ++ [p]) hr'.2 (by simp; omega)
      rw [ih, e, hk]
      simp
    · have hk : ¬ flo step q = flo step p := by
        intro hk
        have h2 := flo_range hs q
        omega
      rw [if_neg hc]
      simp only
      rw [if_neg hk]
      have ih := roll_grp (what := what) hs (q :: l) [] hr'.2 (by simp; omega)
      rw [show zS = ofS [] from rfl, ih, e]
      simp

theorem flo_code {step : Int} (hs : 1 ≤ step) (hs2 : step ≤ 1099511627776) (p : S33) (hp : -1152921504606846976 ≤ p.f0 ∧ p.f0 ≤ 1152921504606846976) : wrap64 (p.f0 - (Int.tmod (wrap64 ((Int.tmod p.f0 step) + step)) step)) = flo step p := by
  have hr := @tmod_range p.f0 step (by omega)
  have h1 := flo_range hs p
  rw [w64 (x := Int.tmod p.f0 step + step) (by omega) (by omega), tmod_fix (by omega)]
  exact w64 (by unfold flo at h1; omega) (by unfold flo at h1; omega)

theorem roll_loop {step what : Int} (hs : 1 ≤ step) (hs2 : step ≤ 1099511627776) (hw0 : 0 ≤ what) (hw : what ≤ 5) (l : List S33) (hl : l.length < 1000000) (hfar : ∀ p ∈ l, -1152921504606846976 ≤ p.f0 ∧ p.f0 ≤ 1152921504606846976) (d : Nat) :
    ∀ (i : Nat) (s : S50) (out : List S33), l.length - i = d → i ≤ l.length → out.length ≤ i → Ev (fun k => agg_Rollup.l0 k l step what out l (l.length : Int) (i : Int) s.f0 s.f1 s.f2 s.f3 s.f4 s.f5) (out ++ roll step what s (l.drop i), 0) := by
  induction d with
  | zero =>
    intro i s out h1 h2 h3
    have hi : i = l.length := by omega
    subst hi
    simp only [List.drop_length, roll, List.append_nil]
    exact ev_stop fun k => by rw [agg_Rollup.l0, if_neg (by omega)]
  | succ d ih =>
    intro i s out h1 h2 h3
    have hlt : i < l.length := by omega
    have hwr : wrap64 ((i : Int) + 1) = ((i + 1 : Nat) : Int) := by rw [w64 (by omega) (by omega)]; omega
    have hdr : l.drop i = l[i] :: l.drop (i + 1) := List.drop_eq_getElem_cons hlt
    have hpi := hfar _ (List.getElem_mem hlt)
    have h1f := flo_range hs l[i]
    have hflush : ∀ (r : List S33 × Int), Ev (fun k => agg_Rollup.l0 k l step what (out ++ [⟨flo step l[i], fld what (joinS s (oneS l[i]))⟩]) l (l.length : Int) ((i + 1 : Nat) : Int) 0 0 0 0 0 0) r → Ev (fun k => (agg_told_fields.f (joinS s (oneS l[i])).f0 (joinS s (oneS l[i])).f1 (joinS s (oneS l[i])).f2 (joinS s (oneS l[i])).f3 (joinS s (oneS l[i])).f4 (joinS s (oneS l[i])).f5).bind fun bt => if 0 ≤ what then (if what < 6 then (if out.length < 8796093022208 then agg_Rollup.l0 k l step what (out ++ [⟨flo step l[i], rd [bt.1, bt.2.1, bt.2.2.1, bt.2.2.2.1, bt.2.2.2.2.1, bt.2.2.2.2.2] what⟩]) l (l.length : Int) ((i + 1 : Nat) : Int) 0 0 0 0 0 0 else none) else none) else none) r := by
      intro r hr
      refine ev_const (a := tup (joinS s (oneS l[i]))) rfl (ev_pos hw0 (ev_pos (by omega) (ev_pos (by omega) ?_)))
      exact hr
    refine ev_succ (fun k => by rw [agg_Rollup.l0]) ?_
    rw [a_rd l i hlt, hwr, flo_code hs hs2 _ hpi, hdr]
    refine ev_pos (by omega) (ev_pos (by omega) (ev_pos (by omega) (ev_const (one_is _) (ev_const (join_is s (oneS l[i])) (ev_neg (by omega) ?_)))))
    by_cases hn : i + 1 < l.length
    · have hdr2 : l.drop (i + 1) = l[i + 1] :: l.drop (i + 1 + 1) := List.drop_eq_getElem_cons hn
      have hpn := hfar _ (List.getElem_mem hn)
      refine ev_pos (by omega) (ev_pos (by omega) ?_)
      rw [a_rd l (i + 1) hn, hdr2, roll, w64 (x := l[i + 1].f0 - flo step l[i]) (by omega) (by omega), ← hdr2]
      by_cases hc : l[i + 1].f0 - flo step l[i] < step
      · rw [if_pos hc]
        exact ev_pos hc (ih (i + 1) (joinS s (oneS l[i])) out (by omega) (by omega) (by omega))
      · rw [if_neg hc]
        refine ev_neg hc (hflush _ ?_)
        have := ih (i + 1) zS (out ++ [⟨flo step l[i], fld what (joinS s (oneS l[i]))⟩]) (by omega) (by omega) (by simp; omega)
        rw [List.append_assoc] at this
        exact this
    · have he : l.drop (i + 1) = [] := List.drop_eq_nil_of_le (by omega)
      refine ev_neg (by omega) (hflush _ ?_)
      have := ih (i + 1) zS (out ++ [⟨flo step l[i], fld what (joinS s (oneS l[i]))⟩]) (by omega) (by omega) (by simp; omega)
      rw [he] at this ⊢
      simp only [roll, List.append_nil] at this ⊢
      exact this

theorem bad_is (t : Int) : agg_bad.f t = some (decide (t < -1152921504606846976) || decide (t > 1152921504606846976)) := by
  unfold agg_bad.f
  by_cases h : t < -1152921504606846976
  · rw [if_pos h]; simp [h]
  · rw [if_neg h]; simp [h]
theorem any_ev (l : List S33) (hl : l.length < 9223372036854775807) : Ev (fun k => api_Point_46.f k l) (l.any far) := by
  have go : ∀ (d i : Nat), l.length - i = d → i ≤ l.length → ∃ r : Int, Ev (fun k => api_Point_54.l0 k l (l.length : Int) (i : Int)) r ∧ decide (r ≥ 0) = (l.drop i).any far := by
    intro d
    induction d with
    | zero =>
      intro i hd hi
      have hi : i = l.length := by omega
      subst hi
      exact ⟨-1, ev_stop fun k => by rw [api_Point_54.l0, if_neg (by omega)], by simp⟩
    | succ d ih =>
      intro i hd hi
      have hlt : i < l.length := by omega
      have hwr : wrap64 ((i : Int) + 1) = ((i + 1 : Nat) : Int) := by rw [w64 (by omega) (by omega)]; omega
      obtain ⟨r, hr, he⟩ := ih (i + 1) (by omega) (by omega)
      rw [List.drop_eq_getElem_cons hlt, List.any_cons]
      by_cases hf : far l[i] = true
      · refine ⟨(i : Int), ?_, by rw [hf]; simp⟩
        refine ev_succ (fun k => by rw [api_Point_54.l0]) ?_
        rw [a_rd l i hlt]
        refine ev_pos (by omega) (ev_pos (by omega) (ev_pos (by omega) (ev_const (a := true) ?_ (ev_pos rfl (Ev.now _)))))
        unfold agg_Rollup_1.f
        rw [bad_is]
        show some (far l[i]) = _
        rw [hf]
      · refine ⟨r, ?_, by rw [he]; simp [hf]⟩
        refine ev_succ (fun k => by rw [api_Point_54.l0]) ?_
        rw [a_rd l i hlt, hwr]
        refine ev_pos (by omega) (ev_pos (by omega) (ev_pos (by omega) (ev_const (a := false) ?_ (ev_neg (by simp) hr))))
        unfold agg_Rollup_1.f
        rw [bad_is]
        show some (far l[i]) = _
        simp [hf]
  obtain ⟨r, hr, he⟩ := go _ 0 rfl (Nat.zero_le _)
  unfold api_Point_46.f
  refine ev_bind (g := fun k => api_Point_54.f k l) hr (ev_eq (Ev.now _) ?_)
  rw [he, List.drop_zero]

theorem far_any {l : List S33} (h : l.any far = false) : ∀ p ∈ l, -1152921504606846976 ≤ p.f0 ∧ p.f0 ≤ 1152921504606846976 := by
  intro p hp
  have := List.any_eq_false.1 h p hp
  simp only [far, Bool.or_eq_true, decide_eq_true_eq] at this
  omega

theorem rollup_ev (l : List S33) (step what : Int) (hw0 : 0 ≤ what) (hl : l.length < 1000000) : Ev (fun k => agg_Rollup.f k l step what) (rollR l step what) := by
  have hbad : ∀ b : Bool, b = true → ¬ (ris l = true ∧ 1 ≤ step ∧ step ≤ 1099511627776 ∧ what ≤ 5 ∧ l.any far = false) → Ev (fun k => agg_Rollup.j0 k l step what b) (rollR l step what) := by
    intro b hb hn
    unfold rollR
    rw [if_neg hn]
    exact ev_stop fun k => by rw [agg_Rollup.j0, if_pos hb]
  unfold agg_Rollup.f
  refine ev_bind (right_ev l (by omega)) ?_
  by_cases h1 : ris l = true
  · refine ev_pos h1 ?_
    by_cases h2 : step < 1
    · exact ev_pos h2 (hbad _ rfl (by omega))
    · refine ev_neg h2 ?_
      by_cases h3 : step > 1099511627776
      · exact ev_pos h3 (hbad _ rfl (by omega))
      · refine ev_neg h3 ?_
        by_cases h4 : what > 5
        · exact ev_pos h4 (hbad _ rfl (by omega))
        · refine ev_neg h4 (ev_bind (any_ev l (by omega)) ?_)
          by_cases h5 : l.any far = true
          · rw [h5]
            exact hbad _ rfl (fun h => by rw [h5] at h; simp at h)
          · have h5' : l.any far = false := by simpa using h5
            rw [h5']
            unfold rollR
            rw [if_pos ⟨h1, by omega, by omega, by omega, h5'⟩]
            refine ev_succ (fun k => by rw [agg_Rollup.j0]) ?_
            refine ev_neg (by simp) ?_
            have := roll_loop (by omega : 1 ≤ step) (by omega) hw0 (by omega) l hl (far_any h5') _ 0 zS [] rfl (Nat.zero_le _) (by simp)
            rw [List.drop_zero, List.nil_append, show zS = ofS [] from rfl, roll_grp (by omega) l [] (ris_rising l h1) (by simp; omega)] at this
            have e : (match grp (flo step) l with | [] => [] | (k, g) :: r => (⟨k, fld what (ofS ([] ++ g))⟩ : S33) :: r.map (fun x => ⟨x.1, fld what (ofS x.2)⟩)) = rolled step what l := by
              unfold rolled
              cases grp (flo step) l with
              | nil => rfl
              | cons x r => obtain ⟨k, g⟩ := x; simp
            rw [e] at this
            exact this
  · exact ev_neg h1 (hbad _ rfl (fun h => h1 h.1))
end Go.Proofs.Ytjkpdjadbeidnaa.Pure
