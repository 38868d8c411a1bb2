/- AggShift as a plain statement: points that are all so many steps later are rolled up to the same, so many steps later. -/
import Derived.Test.YtjkpdjadbeidnaaXStAggShift
import Derived.Test.YtjkpdjadbeidnaaPAr
namespace Go.Proofs.Ytjkpdjadbeidnaa.Pure
open Go.RowKit Go.Proofs.Ytjkpdjadbeidnaa.X Go.Proofs.Ytjkpdjadbeidnaa.Pl Go.Proofs.YtjkpdjadbeidnaaW.PrintWords Go.Proofs.YtjkpdjadbeidnaaW.PrintLast Go.Proofs.YtjkpdjadbeidnaaW.PrintMore

def sh (c : Int) (p : S33) : S33 := ⟨p.f0 + c, p.f1⟩
theorem of_sh (c : Int) : ∀ l : List S33, ofS (l.map (sh c)) = ofS l := by
  have go : ∀ (l : List S33) (s : S50), ofFrom s (l.map (sh c)) = ofFrom s l := by
    intro l
    induction l with
    | nil => intro s; rfl
    | cons p l ih => intro s; exact ih _
  exact fun l => go l zS
theorem grp_sh (κ : S33 → Int) (c c' : Int) (h : ∀ p, κ (sh c p) = κ p + c') : ∀ l : List S33, grp κ (l.map (sh c)) = (grp κ l).map (fun y => (y.1 + c', y.2.map (sh c)))
  | [] => rfl
  | p :: l => by
    rw [List.map_cons, grp_cons, grp_cons, grp_sh κ c c' h l, h]
    cases grp κ l with
    | nil => rfl
    | cons x r =>
      obtain ⟨k, g⟩ := x
      simp only [List.map_cons]
      by_cases hk : k = κ p
      · rw [if_pos hk, if_pos (by omega)]; rfl
      · rw [if_neg hk, if_neg (by omega)]; rfl
theorem flo_sh (n k : Int) (p : S33) : flo n (sh (n * k) p) = flo n p + n * k := by
  unfold flo sh
  simp only
  rw [Int.add_mul_emod_self_left]
  omega
theorem rolled_sh (n k what : Int) (l : List S33) : rolled n what (l.map (sh (n * k))) = (rolled n what l).map (sh (n * k)) := by
  unfold rolled
  rw [grp_sh (flo n) (n * k) (n * k) (flo_sh n k), List.map_map, List.map_map]
  refine List.map_congr_left fun x _ => ?_
  simp only [Function.comp, of_sh]
  rfl
theorem rolled_length (n what : Int) (l : List S33) : (rolled n what l).length ≤ l.length := by
  have gl : ∀ (l : List S33), (grp (flo n) l).length ≤ l.length := by
    intro l
    induction l with
    | nil => simp [grp]
    | cons p l ih =>
      rw [grp_cons]
      cases hg : grp (flo n) l with
      | nil => simp
      | cons x r =>
        obtain ⟨k, g⟩ := x
        rw [hg] at ih
        simp only
        split <;> simp at * <;> omega
  simp only [rolled, List.length_map]; exact gl l
theorem rolled_near {n what : Int} (hn : 1 ≤ n) (hn2 : n ≤ 1000) (l : List S33) (h : ∀ p ∈ l, -1099511627776 < p.f0 ∧ p.f0 < 1099511627776) : ∀ q ∈ rolled n what l, -1099511628776 < q.f0 ∧ q.f0 < 1099511627776 := by
  intro q hq
  obtain ⟨X, hX, rfl⟩ := List.mem_map.1 hq
  obtain ⟨hne, hk⟩ := grp_each _ _ X.1 X.2 hX
  obtain ⟨p, hp⟩ := List.exists_mem_of_ne_nil _ hne
  have h1 := hk p hp
  have h2 := flo_range hn p
  have : p ∈ l := by rw [← grp_join (flo n) l]; exact List.mem_flatMap.2 ⟨X, hX, hp⟩
  have := h p this
  simp only; omega

theorem far_iff {p : S33} : far p = true ↔ p.f0 < -1152921504606846976 ∨ p.f0 > 1152921504606846976 := by simp [far]
theorem shift_cmp {c n k : Int} (hc : n * k = c) (hc0 : 0 ≤ c) (hc2 : c ≤ 1000000) (R : List S33) (hR : R.length < 1000000) (hnear : ∀ q ∈ R, -1099511628776 < q.f0 ∧ q.f0 < 1099511627776) (d : Nat) :
    ∀ i : Nat, R.length - i = d → i ≤ R.length → Ev (fun k' => marigraphlaw12_AggShift.l1 k' true n k R (R.map (sh c)) (R.length : Int) (i : Int)) true := by
  induction d with
  | zero =>
    intro i hd hi
    exact ev_stop fun k => by rw [marigraphlaw12_AggShift.l1, if_neg (by omega)]
  | succ d ih =>
    intro i hd hi
    have hlt : i < R.length := by omega
    have hwr : wrap64 ((i : Int) + 1) = ((i + 1 : Nat) : Int) := by rw [w64 (by omega) (by omega)]; omega
    have hq := hnear _ (List.getElem_mem hlt)
    have hrd : rd_T33 (R.map (sh c)) (i : Int) = sh c R[i] := by rw [a_rd _ i (by simpa using hlt)]; simp
    refine ev_succ (fun k => by rw [marigraphlaw12_AggShift.l1]) ?_
    rw [a_rd R i hlt, hrd, hwr, hc, w64 (x := c) (by omega) (by omega), w64 (x := R[i].f0 + c) (by omega) (by omega)]
    refine ev_pos (by omega) (ev_pos (by omega) (ev_pos (by simpa using hlt) (ev_pos (by omega) (ev_neg (by simp [sh]) ?_))))
    exact ih (i + 1) (by omega) (by omega)

theorem shift_end {n k w : Int} (hn : 1 ≤ n) (hn2 : n ≤ 1000) (hc0 : 0 ≤ n * k) (hc2 : n * k ≤ 1000000) (hw : 0 ≤ w ∧ w ≤ 5) (w' : Int) (hw' : Int.tmod w' 6 = w) (X : List S33) (hX : X.length < 1000000) (hr : Rising X) (hnear : ∀ p ∈ X, -1099511627776 < p.f0 ∧ p.f0 < 1099511627776) (L : List S33) :
    Ev (fun k' => marigraphlaw12_AggShift.l0 k' w' true n k X (X.map (sh (n * k))) L (L.length : Int) (L.length : Int)) true := by
  have hc : ∃ c, n * k = c := ⟨_, rfl⟩
  obtain ⟨c, hc⟩ := hc
  rw [hc] at hc0 hc2 ⊢
  have e1 : rollR X n w = (rolled n w X, 0) := by
    have hf : X.any far = false := by
      rw [List.any_eq_false]
      intro p hp
      have := hnear p hp
      simp [far]; omega
    unfold rollR
    rw [if_pos ⟨rising_ris X hr, hn, by omega, hw.2, hf⟩]
  have hr2 : Rising (X.map (sh c)) := by
    unfold Rising
    rw [List.pairwise_map]
    exact hr.imp (fun h => by simp only [sh]; omega)
  have e2 : rollR (X.map (sh c)) n w = ((rolled n w X).map (sh c), 0) := by
    have hf : (X.map (sh c)).any far = false := by
      rw [List.any_eq_false]
      intro p hp
      obtain ⟨q, hq, rfl⟩ := List.mem_map.1 hp
      have := hnear q hq
      intro hh
      rcases far_iff.1 hh with hh | hh
      · simp only [sh] at hh; omega
      · simp only [sh] at hh; omega
    unfold rollR
    rw [if_pos ⟨rising_ris _ hr2, hn, by omega, hw.2, hf⟩, ← hc, rolled_sh]
  have g1 := rollup_ev X n w hw.1 hX
  have g2 := rollup_ev (X.map (sh c)) n w hw.1 (by simpa using hX)
  rw [e1] at g1
  rw [e2] at g2
  have hl := rolled_length n w X
  have hnr := rolled_near (what := w) hn hn2 X hnear
  generalize rolled n w X = R at g1 g2 hl hnr
  refine ev_succ (fun k => by rw [marigraphlaw12_AggShift.l0]) ?_
  rw [hw']
  refine ev_neg (by omega) (ev_bind g1 (ev_bind g2 (ev_pos rfl (ev_pos rfl ?_))))
  refine ev_succ (fun k => by rw [marigraphlaw12_AggShift.j1]) ?_
  refine ev_neg (by simp) ?_
  exact shift_cmp hc hc0 hc2 R (by omega) hnr _ 0 rfl (Nat.zero_le _)

theorem rising_snoc {X : List S33} {q : S33} (hr : Rising X) (h : ∀ p ∈ X.getLast?, p.f0 < q.f0) : Rising (X ++ [q]) := by
  unfold Rising
  rw [List.pairwise_append]
  refine ⟨hr, by simp, fun p hp r hr' => ?_⟩
  obtain rfl := List.mem_singleton.1 hr'
  rcases List.eq_nil_or_concat X with rfl | ⟨D, x, rfl⟩
  · simp at hp
  · rw [List.concat_eq_append] at h hr hp
    have hx := h x (by simp)
    rcases List.mem_append.1 hp with hp | hp
    · have := (List.pairwise_append.1 hr).2.2 p hp x (by simp)
      omega
    · obtain rfl := List.mem_singleton.1 hp
      exact hx

theorem shift_loop {n k w : Int} (hn : 1 ≤ n) (hn2 : n ≤ 1000) (hc0 : 0 ≤ n * k) (hc2 : n * k ≤ 1000000) (hw : 0 ≤ w ∧ w ≤ 5) (w' : Int) (hw' : Int.tmod w' 6 = w) (L : List S33) (hL : L.length < 1000000) (d : Nat) :
    ∀ (i : Nat) (X : List S33), L.length - i = d → i ≤ L.length → X.length ≤ i → Rising X → (∀ p ∈ X, -1099511627776 < p.f0 ∧ p.f0 < 1099511627776) →
      Ev (fun k' => marigraphlaw12_AggShift.l0 k' w' true n k X (X.map (sh (n * k))) L (L.length : Int) (i : Int)) true := by
  induction d with
  | zero =>
    intro i X hd hi hXl hr hnear
    obtain rfl : i = L.length := by omega
    exact shift_end hn hn2 hc0 hc2 hw w' hw' X (by omega) hr hnear L
  | succ d ih =>
    intro i X hd hi hXl hr hnear
    have hlt : i < L.length := by omega
    have hwr : wrap64 ((i : Int) + 1) = ((i + 1 : Nat) : Int) := by rw [w64 (by omega) (by omega)]; omega
    have ht := @tmod_range L[i].f0 1099511627776 (by omega)
    refine ev_succ (fun k => by rw [marigraphlaw12_AggShift.l0]) ?_
    rw [a_rd L i hlt, hwr]
    generalize Int.tmod L[i].f0 1099511627776 = t at ht ⊢
    generalize L[i].f1 = v
    rw [w64 (x := n * k) (by omega) (by omega), w64 (x := t + n * k) (by omega) (by omega)]
    refine ev_pos (by omega) (ev_pos (by omega) (ev_pos (by omega) ?_))
    have hgo : (∀ p ∈ X.getLast?, p.f0 < t) → Ev (fun k' => marigraphlaw12_AggShift.l0 k' w' true n k (X ++ [⟨t, v⟩]) (X.map (sh (n * k)) ++ [⟨t + n * k, v⟩]) L (L.length : Int) ((i + 1 : Nat) : Int)) true := by
      intro hlast
      have := ih (i + 1) (X ++ [⟨t, v⟩]) (by omega) (by omega) (by simp; omega) (rising_snoc hr hlast) (by
        intro p hp
        rcases List.mem_append.1 hp with hp | hp
        · exact hnear p hp
        · obtain rfl := List.mem_singleton.1 hp
          simp only; omega)
      rw [List.map_append] at this
      exact this
    rcases List.eq_nil_or_concat X with rfl | ⟨D, x, rfl⟩
    · refine ev_neg (by simp) (ev_const (a := [⟨t, v⟩]) rfl (ev_pos (by simp) (ev_const (a := [⟨t + n * k, v⟩]) rfl (ev_pos (by simp) ?_))))
      exact hgo (by simp)
    · rw [List.concat_eq_append] at *
      have hlen : ((D ++ [x]).length : Int) = (D.length : Int) + 1 := by simp
      have hDl : D.length < 1000000 := by simp at hXl; omega
      have hrd : rd_T33 (D ++ [x]) (D.length : Int) = x := by
        unfold rd_T33; rw [Int.toNat_natCast, getD_lt _ _ _ (by simp)]; simp
      rw [hlen, w64 (x := (D.length : Int) + 1 - 1) (by omega) (by omega), show (D.length : Int) + 1 - 1 = (D.length : Int) by omega, hrd]
      refine ev_pos (by omega) (ev_pos (by omega) (ev_pos (by omega) ?_))
      by_cases hc : t ≤ x.f0
      · exact ev_pos hc (ih (i + 1) _ (by omega) (by omega) (by omega) hr hnear)
      · refine ev_neg hc (ev_const (a := [⟨t, v⟩]) rfl (ev_pos (by simp; omega) (ev_const (a := [⟨t + n * k, v⟩]) rfl (ev_pos (by simp; omega) ?_))))
        refine hgo ?_
        intro p hp
        simp at hp
        subst hp
        omega

theorem AggShift : marigraphlaw12_AggShift.Pure := by
  intro l a1 a2 a3 _ hwf h1 h2 h3
  refine Ev.rounds ?_
  unfold marigraphlaw12_AggShift.f
  obtain ⟨x, hx, hxl, hm⟩ := a_few l
  have w1 : 0 ≤ a1 ∧ a1 ≤ 65535 := by simpa [Lit.wf, IntKind.min, IntKind.max, IntKind.signed, IntKind.bits] using h1
  have w2 : 0 ≤ a2 ∧ a2 ≤ 65535 := by simpa [Lit.wf, IntKind.min, IntKind.max, IntKind.signed, IntKind.bits] using h2
  have w3 : 0 ≤ a3 ∧ a3 ≤ 255 := by simpa [Lit.wf, IntKind.min, IntKind.max, IntKind.signed, IntKind.bits] using h3
  have e1 : Int.tmod a1 1000 = a1 % 1000 := Int.tmod_eq_emod_of_nonneg w1.1
  have e2 : Int.tmod a2 1000 = a2 % 1000 := Int.tmod_eq_emod_of_nonneg w2.1
  have e3 : Int.tmod a3 6 = a3 % 6 := Int.tmod_eq_emod_of_nonneg w3.1
  refine ev_bind a_shown_ev (ev_const hx ?_)
  rw [e1, e2, w64 (x := a1 % 1000) (by omega) (by omega), w64 (x := a2 % 1000) (by omega) (by omega), w64 (x := a1 % 1000 + 1) (by omega) (by omega)]
  have hc0 : 0 ≤ (a1 % 1000 + 1) * (a2 % 1000) := Int.mul_nonneg (by omega) (by omega)
  have hc2 : (a1 % 1000 + 1) * (a2 % 1000) ≤ 1000 * 1000 := Int.mul_le_mul (by omega) (by omega) (by omega) (by omega)
  exact shift_loop (w := a3 % 6) (by omega) (by omega) hc0 (by omega) (by omega) a3 e3 x (by omega) _ 0 [] rfl (Nat.zero_le _) (by simp) List.Pairwise.nil (by simp)
end Go.Proofs.Ytjkpdjadbeidnaa.Pure
