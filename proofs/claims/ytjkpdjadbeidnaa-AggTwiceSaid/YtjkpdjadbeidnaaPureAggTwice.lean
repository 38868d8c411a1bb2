/- AggTwice as a plain statement: what was rolled up once is rolled up again to the same as at once. -/
import Derived.Test.YtjkpdjadbeidnaaXStAggTwice
import Derived.Test.YtjkpdjadbeidnaaPAs
namespace Go.Proofs.Ytjkpdjadbeidnaa.Pure
open Go.RowKit Go.Proofs.Ytjkpdjadbeidnaa.X Go.Proofs.Ytjkpdjadbeidnaa.Pl Go.Proofs.YtjkpdjadbeidnaaW.PrintWords Go.Proofs.YtjkpdjadbeidnaaW.PrintLast Go.Proofs.YtjkpdjadbeidnaaW.PrintMore

theorem le_mul1 {a b : Int} (ha : 1 ≤ a) (hb : 1 ≤ b) : 1 ≤ a * b := by
  have := Int.mul_le_mul ha hb (by omega) (by omega); omega
theorem grp_map {α β : Type} (κ : β → Int) (f : α → β) : ∀ l : List α, grp κ (l.map f) = (grp (fun x => κ (f x)) l).map (fun y => (y.1, y.2.map f))
  | [] => rfl
  | p :: l => by
    rw [List.map_cons, grp_cons, grp_cons, grp_map κ f l]
    cases grp (fun x => κ (f x)) l with
    | nil => rfl
    | cons x r =>
      obtain ⟨k, g⟩ := x
      simp only [List.map_cons]
      by_cases h : k = κ (f p)
      · rw [if_pos h, if_pos h]; rfl
      · rw [if_neg h, if_neg h]; rfl
theorem grp_congr {α : Type} (κ κ' : α → Int) : ∀ l : List α, (∀ p ∈ l, κ p = κ' p) → grp κ l = grp κ' l
  | [], _ => rfl
  | p :: l, h => by
    rw [grp_cons, grp_cons, grp_congr κ κ' l (fun q hq => h q (List.mem_cons_of_mem _ hq)), h p List.mem_cons_self]
/-- Groups of groups. -/
theorem grp_grp {α : Type} (κ : α → Int) (K : Int × List α → Int) : ∀ L : List (Int × List α), (∀ G ∈ L, G.2 ≠ [] ∧ ∀ p ∈ G.2, κ p = K G) → (grp K L).map (fun y => (y.1, y.2.flatMap (·.2))) = grp κ (L.flatMap (·.2))
  | [], _ => rfl
  | G :: L, h => by
    have hG := h G List.mem_cons_self
    have ih := grp_grp κ K L (fun H hH => h H (List.mem_cons_of_mem _ hH))
    rw [List.flatMap_cons, grp_same κ (K G) G.2 _ hG.1 hG.2, ← ih, grp_cons]
    cases grp K L with
    | nil => simp
    | cons x r =>
      obtain ⟨k, g⟩ := x
      simp only [List.map_cons]
      by_cases hk : k = K G
      · rw [if_pos hk, if_pos hk]; simp [hk]
      · rw [if_neg hk, if_neg hk]; simp

def comb (what a b : Int) : Int := if what = 1 then wrap64 (a + b) else if what = 2 then mn a b else if what = 3 then mx a b else if what = 4 then a else b
theorem what5 {what : Int} (h1 : 1 ≤ what) (h5 : what ≤ 5) : what = 1 ∨ what = 2 ∨ what = 3 ∨ what = 4 ∨ what = 5 := by omega
theorem fld_one {what : Int} (h1 : 1 ≤ what) (h5 : what ≤ 5) (p : S33) : fld what (oneS p) = p.f1 := by
  rcases what5 h1 h5 with rfl | rfl | rfl | rfl | rfl <;> rfl
theorem fld_join {what : Int} (h1 : 1 ≤ what) (h5 : what ≤ 5) {a b : S50} (ha : 0 < a.f0) (hb : 0 < b.f0) : fld what (joinS a b) = comb what (fld what a) (fld what b) := by
  unfold joinS
  rw [if_neg (by omega), if_neg (by omega)]
  rcases what5 h1 h5 with rfl | rfl | rfl | rfl | rfl <;> rfl
def toldP (what : Int) (G : Int × List S33) : S33 := ⟨G.1, fld what (ofS G.2)⟩
theorem of_cons (p : S33) (l : List S33) (h : l.length < 1000000) : ofS (p :: l) = joinS (oneS p) (ofS l) := by
  rw [← of_one, ← of_append [p] l (by simp; omega)]; rfl
theorem fld_groups {what : Int} (h1 : 1 ≤ what) (h5 : what ≤ 5) : ∀ Gs : List (Int × List S33), Gs ≠ [] → (∀ G ∈ Gs, G.2 ≠ []) → (Gs.flatMap (·.2)).length < 1000000 → fld what (ofS (Gs.map (toldP what))) = fld what (ofS (Gs.flatMap (·.2)))
  | [G], _, _, _ => by
    simp only [List.map_cons, List.map_nil, List.flatMap_cons, List.flatMap_nil, List.append_nil]
    rw [of_one, fld_one h1 h5]; rfl
  | G :: H :: Gs, _, hne, hl => by
    have hG := hne G List.mem_cons_self
    have hH := hne H (List.mem_cons_of_mem _ List.mem_cons_self)
    have hGl : 0 < G.2.length := List.length_pos_iff.2 hG
    rw [List.flatMap_cons, List.length_append] at hl
    have ih := fld_groups h1 h5 (H :: Gs) (by simp) (fun X hX => hne X (List.mem_cons_of_mem _ hX)) (by omega)
    have hml : ((H :: Gs).map (toldP what)).length ≤ ((H :: Gs).flatMap (·.2)).length := by
      have : ∀ Ks : List (Int × List S33), (∀ X ∈ Ks, X.2 ≠ []) → Ks.length ≤ (Ks.flatMap (·.2)).length := by
        intro Ks
        induction Ks with
        | nil => intro _; simp
        | cons K Ks ih =>
          intro h
          have hK := List.length_pos_iff.2 (h K List.mem_cons_self)
          have := ih (fun X hX => h X (List.mem_cons_of_mem _ hX))
          rw [List.flatMap_cons, List.length_append, List.length_cons]; omega
      rw [List.length_map]
      exact this _ (fun X hX => hne X (List.mem_cons_of_mem _ hX))
    have hpos : 0 < ((H :: Gs).map (toldP what)).length := by simp
    generalize hR : (H :: Gs).flatMap (·.2) = R at *
    generalize hM : (H :: Gs).map (toldP what) = M at *
    have gR := good_of R (by omega)
    have gM := good_of M (by omega)
    have gG := good_of G.2 (by omega)
    rw [List.map_cons, List.flatMap_cons, hR, hM, of_cons _ _ (by omega), of_append _ _ (by omega), fld_join h1 h5 (show 0 < (oneS (toldP what G)).f0 by simp [oneS]) (by rw [gM.1]; omega), fld_join h1 h5 (by rw [gG.1]; omega) (by rw [gR.1]; omega), ih, fld_one h1 h5]
    rfl

theorem flo_flo {st m : Int} (p q : S33) (h : q.f0 = flo st p) (hs : 1 ≤ st) (hm : 1 ≤ m) : flo (st * m) q = flo (st * m) p := by
  have hsm : 1 ≤ st * m := le_mul1 hs hm
  have hp := flo_range (step := st) hs p
  refine flo_same (step := st * m) p q ?_ ?_
  · -- the wide key is a key of the narrow step, at most the point's time
    rw [h]
    have e1 : flo (st * m) p = st * (m * (p.f0 / (st * m))) := by rw [flo_mul, Int.mul_assoc]
    have hr := flo_range (step := st * m) hsm p
    rw [e1] at hr ⊢
    rw [flo_mul]
    refine Int.mul_le_mul_of_nonneg_left ?_ (by omega)
    refine Int.le_ediv_of_mul_le (by omega) ?_
    rw [Int.mul_comm]; exact hr.1
  · have hr := flo_range (step := st * m) hsm p
    omega

theorem rolled_twice {st m what : Int} (hs : 1 ≤ st) (hm : 1 ≤ m) (h1 : 1 ≤ what) (h5 : what ≤ 5) (l : List S33) (hl : l.length < 1000000) : rolled (st * m) what (rolled st what l) = rolled (st * m) what l := by
  have hG : ∀ G ∈ grp (flo st) l, G.2 ≠ [] ∧ ∀ p ∈ G.2, flo (st * m) p = flo (st * m) (toldP what G) := by
    intro G hG
    obtain ⟨hne, hk⟩ := grp_each (flo st) l G.1 G.2 hG
    refine ⟨hne, fun p hp => (flo_flo p (toldP what G) ?_ hs hm).symm⟩
    exact (hk p hp).symm
  have e := grp_grp (flo (st * m)) (fun G => flo (st * m) (toldP what G)) (grp (flo st) l) hG
  rw [grp_join] at e
  have ey : rolled st what l = (grp (flo st) l).map (toldP what) := rfl
  unfold rolled at ey ⊢
  rw [ey, grp_map, ← e, List.map_map, List.map_map]
  refine List.map_congr_left fun X hX => ?_
  obtain ⟨hne, hk⟩ := grp_each _ _ X.1 X.2 hX
  have hsub : ∀ G ∈ X.2, G ∈ grp (flo st) l := by
    intro G hG'
    rw [← grp_join (fun G => flo (st * m) (toldP what G)) (grp (flo st) l)]
    exact List.mem_flatMap.2 ⟨X, hX, hG'⟩
  simp only [Function.comp]
  congr 1
  refine fld_groups h1 h5 X.2 hne (fun G hG' => (hG G (hsub G hG')).1) ?_
  have : X.2.flatMap (·.2) ∈ (grp (flo (st * m)) l).map (·.2) := by
    rw [← e]
    simp only [List.map_map]
    exact List.mem_map.2 ⟨X, hX, rfl⟩
  obtain ⟨Y, hY, hYe⟩ := List.mem_map.1 this
  rw [← hYe]
  have hj := grp_join (flo (st * m)) l
  have hle : Y.2.length ≤ ((grp (flo (st * m)) l).flatMap (·.2)).length := by
    obtain ⟨A, B, hAB⟩ := List.append_of_mem hY
    rw [hAB]
    simp; omega
  rw [hj] at hle
  omega

theorem rolled_ris {st what : Int} (hs : 1 ≤ st) (l : List S33) (hr : Rising l) : ris (rolled st what l) = true := by
  refine rising_ris _ ?_
  unfold rolled Rising
  rw [List.pairwise_map]
  exact grp_keys (flo st) l (rising_flo hs hr)
theorem rolled_le {st what : Int} (hs : 1 ≤ st) (l : List S33) (h : ∀ p ∈ l, p.f0 ≤ 1152921504606846976) : ∀ q ∈ rolled st what l, q.f0 ≤ 1152921504606846976 := by
  intro q hq
  obtain ⟨X, hX, rfl⟩ := List.mem_map.1 hq
  obtain ⟨hne, hk⟩ := grp_each _ _ X.1 X.2 hX
  obtain ⟨p, hp⟩ := List.exists_mem_of_ne_nil _ hne
  have h1 := hk p hp
  have h2 := flo_range hs p
  have : p ∈ l := by rw [← grp_join (flo st) l]; exact List.mem_flatMap.2 ⟨X, hX, hp⟩
  have := h p this
  simp only; omega
theorem rollR_twice {st m what : Int} (hs : 1 ≤ st) (hs2 : st ≤ 1000) (hm : 1 ≤ m) (hm2 : m ≤ 20) (h1 : 1 ≤ what) (h5 : what ≤ 5) (l : List S33) (hl : l.length < 1000000) :
    (rollR l st what).2 = (rollR l (st * m) what).2 ∧ ((∀ q ∈ (rollR l st what).1, -1152921504606846976 ≤ q.f0) → (rollR l st what).2 = 0 → rollR (rollR l st what).1 (st * m) what = ((rollR l (st * m) what).1, 0)) := by
  have hsm : 1 ≤ st * m := le_mul1 hs hm
  have hsm2 : st * m ≤ 1000 * 20 := Int.mul_le_mul hs2 hm2 (by omega) (by omega)
  by_cases hc : ris l = true ∧ l.any far = false
  · have e1 : rollR l st what = (rolled st what l, 0) := by
      unfold rollR; rw [if_pos ⟨hc.1, hs, by omega, h5, hc.2⟩]
    have e2 : rollR l (st * m) what = (rolled (st * m) what l, 0) := by
      unfold rollR; rw [if_pos ⟨hc.1, hsm, by omega, h5, hc.2⟩]
    rw [e1, e2]
    refine ⟨rfl, fun hlo _ => ?_⟩
    have hle := rolled_le (what := what) hs l (fun p hp => (far_any hc.2 p hp).2)
    have hnf : (rolled st what l).any far = false := by
      rw [List.any_eq_false]
      intro q hq
      have := hle q hq
      have := hlo q hq
      simp [far]; omega
    unfold rollR
    rw [if_pos ⟨rolled_ris hs l (ris_rising l hc.1), hsm, by omega, h5, hnf⟩, rolled_twice hs hm h1 h5 l hl]
  · have e1 : rollR l st what = ([], 1) := by
      unfold rollR; rw [if_neg (fun h => hc ⟨h.1, h.2.2.2.2⟩)]
    have e2 : rollR l (st * m) what = ([], 1) := by
      unfold rollR; rw [if_neg (fun h => hc ⟨h.1, h.2.2.2.2⟩)]
    rw [e1, e2]
    exact ⟨rfl, fun _ h => by simp at h⟩

theorem twice_y (l : List S33) {st m what : Int} (hs : 1 ≤ st) (hsm2 : st * m ≤ 1000 * 20) (hsm : 1 ≤ st * m) (hm : 1 ≤ m) (hwhat : 1 ≤ what ∧ what ≤ 5) (Y : List S33) (hYl : Y.length < 1000000) (e : Int) (B : List S33) (i : Int)
    (hend : (∀ q ∈ Y, -1152921504606846976 ≤ q.f0) → Ev (fun k => if e = 0 then (if (rollR Y (st * m) what).2 = 0 then ((marigraphref04_Same.f k (rollR Y (st * m) what).1 B).bind fun t387 => (if t387 = true then (marigraphlaw12_AggTwice.l0 k l true st m [1, 2, 3, 4, 5] 5 (wrap64 (i + 1))) else (some false))) else (some false)) else (marigraphlaw12_AggTwice.l0 k l true st m [1, 2, 3, 4, 5] 5 (wrap64 (i + 1)))) true) (d : Nat) :
    ∀ (j : Nat), Y.length - j = d → j ≤ Y.length → (∀ q ∈ Y.take j, -1152921504606846976 ≤ q.f0) → Ev (fun k => marigraphlaw12_AggTwice.l1 k l true st m what Y e B [1, 2, 3, 4, 5] 5 i Y (Y.length : Int) (j : Int)) true := by
  have hw : wrap64 (st * m) = st * m := w64 (by omega) (by omega)
  induction d with
  | zero =>
    intro j hd' hj hlo
    obtain rfl : j = Y.length := by omega
    rw [List.take_length] at hlo
    refine ev_succ (fun k => by rw [marigraphlaw12_AggTwice.l1]) ?_
    rw [hw]
    refine ev_neg (by omega) (ev_bind (rollup_ev Y (st * m) what (by omega) (by omega)) ?_)
    exact hend hlo
  | succ d' ihj =>
    intro j hd' hj hlo
    have hlt : j < Y.length := by omega
    have hwj : wrap64 ((j : Int) + 1) = ((j + 1 : Nat) : Int) := by rw [w64 (by omega) (by omega)]; omega
    refine ev_succ (fun k => by rw [marigraphlaw12_AggTwice.l1]) ?_
    rw [a_rd Y j hlt, hwj]
    refine ev_pos (by omega) (ev_pos (by omega) (ev_pos (by omega) ?_))
    by_cases hc : Y[j].f0 < -1152921504606846976
    · exact ev_pos hc (Ev.now _)
    · refine ev_neg hc (ihj (j + 1) (by omega) (by omega) ?_)
      rw [List.take_succ_eq_append_getElem hlt]
      intro q hq
      rcases List.mem_append.1 hq with hq | hq
      · exact hlo q hq
      · obtain rfl := List.mem_singleton.1 hq
        exact Int.not_lt.1 hc

theorem twice_loop (l x : List S33) (hx : marigraphlaw12_few.f l = some x) (hxl : x.length ≤ 400) {st m : Int} (hs : 1 ≤ st) (hs2 : st ≤ 1000) (hm : 1 ≤ m) (hm2 : m ≤ 20) (d : Nat) :
    ∀ i : Nat, 5 - i = d → i ≤ 5 → Ev (fun k => marigraphlaw12_AggTwice.l0 k l true st m [1, 2, 3, 4, 5] 5 (i : Int)) true := by
  have hsm : 1 ≤ st * m := le_mul1 hs hm
  have hsm2 : st * m ≤ 1000 * 20 := Int.mul_le_mul hs2 hm2 (by omega) (by omega)
  have hw : wrap64 (st * m) = st * m := w64 (by omega) (by omega)
  induction d with
  | zero =>
    intro i hd hi
    exact ev_stop fun k => by rw [marigraphlaw12_AggTwice.l0, if_neg (by omega)]
  | succ d ih =>
    intro i hd hi
    have hwr : wrap64 ((i : Int) + 1) = ((i + 1 : Nat) : Int) := by rw [w64 (by omega) (by omega)]; omega
    have hwhat : 1 ≤ rd [1, 2, 3, 4, 5] (i : Int) ∧ rd [1, 2, 3, 4, 5] (i : Int) ≤ 5 := by
      rcases (by omega : i = 0 ∨ i = 1 ∨ i = 2 ∨ i = 3 ∨ i = 4) with rfl | rfl | rfl | rfl | rfl <;> decide
    have ih := ih (i + 1) (by omega) (by omega)
    refine ev_succ (fun k => by rw [marigraphlaw12_AggTwice.l0]) ?_
    generalize rd [1, 2, 3, 4, 5] (i : Int) = what at hwhat ⊢
    have hr := rollR_twice hs hs2 hm hm2 hwhat.1 hwhat.2 x (by omega)
    have hyl := rollR_length x st what
    have hbl := rollR_length x (st * m) what
    rw [hw]
    refine ev_pos (by omega) (ev_pos (by omega) (ev_pos (by simp; omega) (ev_const hx (ev_bind (rollup_ev x st what (by omega) (by omega)) (ev_const hx (ev_bind (rollup_ev x (st * m) what (by omega) (by omega)) (ev_pos hr.1 ?_)))))))
    generalize hY : (rollR x st what).1 = Y at *
    generalize hB : (rollR x (st * m) what).1 = B at *
    generalize (rollR x st what).2 = e at *
    refine twice_y l hs hsm2 hsm hm hwhat Y (by omega) e B (i : Int) ?_ _ 0 rfl (Nat.zero_le _) (by simp)
    intro hlo
    rw [hwr]
    by_cases he : e = 0
    · rw [hr.2 hlo he]
      exact ev_pos he (ev_pos rfl (ev_bind (a_same B (by omega)) (ev_pos rfl ih)))
    · exact ev_neg he ih

theorem AggTwice : marigraphlaw12_AggTwice.Pure := by
  intro l a1 a2 _ hwf h1 h2
  refine Ev.rounds ?_
  unfold marigraphlaw12_AggTwice.f
  obtain ⟨x, hx, hxl, hm⟩ := a_few l
  have w1 : 0 ≤ a1 ∧ a1 ≤ 65535 := by simpa [Lit.wf, IntKind.min, IntKind.max, IntKind.signed, IntKind.bits] using h1
  have w2 := wfu8 h2
  have r1 := @tmod_pos a1 1000
  have e1 : Int.tmod a1 1000 = a1 % 1000 := Int.tmod_eq_emod_of_nonneg w1.1
  have e2 : Int.tmod a2 20 = a2 % 20 := Int.tmod_eq_emod_of_nonneg w2.1
  refine ev_bind a_shown_ev (ev_const (a := [1, 2, 3, 4, 5]) rfl ?_)
  rw [e1, e2, w64 (x := a1 % 1000) (by omega) (by omega), w64 (x := a2 % 20) (by omega) (by omega), w64 (x := a1 % 1000 + 1) (by omega) (by omega), w64 (x := a2 % 20 + 1) (by omega) (by omega)]
  exact twice_loop l x hx hxl (by omega) (by omega) (by omega) (by omega) _ 0 rfl (by omega)
end Go.Proofs.Ytjkpdjadbeidnaa.Pure
