/- Out of PAg, PAh, PAr, PAs, PAb: what PureAggWhole needs of them. -/
import Derived.Test.YtjkpdjadbeidnaaPl
import Derived.Test.YtjkpdjadbeidnaaX0
import Derived.Test.YtjkpdjadbeidnaaX15
import Derived.Test.YtjkpdjadbeidnaaX16
import Derived.Test.YtjkpdjadbeidnaaX31
import Derived.Test.YtjkpdjadbeidnaaX4
import Derived.Test.YtjkpdjadbeidnaaX5
import Derived.Test.YtjkpdjadbeidnaaX6
import Derived.Test.YtjkpdjadbeidnaaX7
namespace Go.Proofs.Ytjkpdjadbeidnaa.Pure
open Go.RowKit Go.Proofs.Ytjkpdjadbeidnaa.X Go.Proofs.Ytjkpdjadbeidnaa.Pl Go.Proofs.YtjkpdjadbeidnaaW.PrintWords Go.Proofs.YtjkpdjadbeidnaaW.PrintLast Go.Proofs.YtjkpdjadbeidnaaW.PrintMore
def joinS (a b : S50) : S50 := if b.f0 ≤ 0 then a else if a.f0 ≤ 0 then b else ⟨wrap64 (a.f0 + b.f0), wrap64 (a.f1 + b.f1), mn a.f2 b.f2, mx a.f3 b.f3, a.f4, b.f5⟩
def oneS (p : S33) : S50 := ⟨1, p.f1, p.f1, p.f1, p.f1, p.f1⟩
def zS : S50 := ⟨0, 0, 0, 0, 0, 0⟩
def ofFrom (s : S50) (l : List S33) : S50 := l.foldl (fun s p => joinS s (oneS p)) s
def ofS (l : List S33) : S50 := ofFrom zS l
abbrev tup (s : S50) : Int × Int × Int × Int × Int × Int := (s.f0, s.f1, s.f2, s.f3, s.f4, s.f5)
/-- What came of n points. -/
def Good (s : S50) (n : Nat) : Prop := s.f0 = (n : Int) ∧ (n = 0 → s = zS)
theorem good_z : Good zS 0 := ⟨rfl, fun _ => rfl⟩
theorem good_one (p : S33) : Good (oneS p) 1 := ⟨rfl, fun h => by omega⟩
theorem good_join {a b : S50} {n m : Nat} (ha : Good a n) (hb : Good b m) (h : n + m < 9223372036854775807) : Good (joinS a b) (n + m) := by
  unfold joinS
  have h1 := ha.1
  have h2 := hb.1
  by_cases hm : m = 0
  · rw [if_pos (by omega)]
    subst hm
    simpa using ha
  · rw [if_neg (by omega)]
    by_cases hn : n = 0
    · rw [if_pos (by omega)]
      subst hn
      simpa using hb
    · rw [if_neg (by omega)]
      refine ⟨?_, fun h => by omega⟩
      show wrap64 (a.f0 + b.f0) = _
      rw [h1, h2, w64 (by omega) (by omega)]
      omega
theorem join_z {a : S50} {n : Nat} (h : Good a n) : joinS a zS = a ∧ joinS zS a = a := by
  constructor
  · unfold joinS; rw [if_pos (by simp [zS])]
  · unfold joinS
    by_cases hn : n = 0
    · rw [h.2 hn]; rfl
    · rw [if_neg (by have := h.1; omega), if_pos (by simp [zS])]
theorem mn_assoc (a b c : Int) : mn (mn a b) c = mn a (mn b c) := by
  unfold mn; split <;> split <;> (try split) <;> (try split) <;> omega
theorem mx_assoc (a b c : Int) : mx (mx a b) c = mx a (mx b c) := by
  unfold mx; split <;> split <;> (try split) <;> (try split) <;> omega
theorem wrap_assoc (a b c : Int) : wrap64 (wrap64 (a + b) + c) = wrap64 (a + wrap64 (b + c)) := by
  unfold wrap64; omega
theorem join_assoc {a b c : S50} {n m k : Nat} (ha : Good a n) (hb : Good b m) (hc : Good c k) (h : n + m + k < 9223372036854775807) : joinS (joinS a b) c = joinS a (joinS b c) := by
  have g1 := good_join ha hb (by omega)
  have g2 := good_join hb hc (by omega)
  by_cases hk : k = 0
  · rw [hc.2 hk, (join_z g1).1, (join_z hb).1]
  · by_cases hm : m = 0
    · rw [hb.2 hm, (join_z ha).1, (join_z hc).2]
    · by_cases hn : n = 0
      · rw [ha.2 hn, (join_z hb).2, (join_z g2).2]
      · have a1 := ha.1
        have b1 := hb.1
        have c1 := hc.1
        have e1 : joinS a b = ⟨wrap64 (a.f0 + b.f0), wrap64 (a.f1 + b.f1), mn a.f2 b.f2, mx a.f3 b.f3, a.f4, b.f5⟩ := by
          unfold joinS; rw [if_neg (by omega), if_neg (by omega)]
        have e2 : joinS b c = ⟨wrap64 (b.f0 + c.f0), wrap64 (b.f1 + c.f1), mn b.f2 c.f2, mx b.f3 c.f3, b.f4, c.f5⟩ := by
          unfold joinS; rw [if_neg (by omega), if_neg (by omega)]
        have w1 : wrap64 (a.f0 + b.f0) = a.f0 + b.f0 := w64 (by omega) (by omega)
        have w2 : wrap64 (b.f0 + c.f0) = b.f0 + c.f0 := w64 (by omega) (by omega)
        rw [e1, e2]
        unfold joinS
        simp only [w1, w2]
        rw [if_neg (by omega), if_neg (by omega), if_neg (by omega), if_neg (by omega), mn_assoc, mx_assoc, wrap_assoc, Int.add_assoc]
theorem good_from : ∀ (l : List S33) (s : S50) (n : Nat), Good s n → n + l.length < 9223372036854775807 → Good (ofFrom s l) (n + l.length)
  | [], s, n, h, _ => by simpa [ofFrom] using h
  | p :: l, s, n, h, hl => by
    simp only [List.length_cons] at hl
    have := good_from l (joinS s (oneS p)) (n + 1) (good_join h (good_one p) (by omega)) (by omega)
    simp only [List.length_cons]
    rw [show n + (l.length + 1) = n + 1 + l.length by omega]
    exact this
theorem good_of (l : List S33) (h : l.length < 9223372036854775807) : Good (ofS l) l.length := by
  have := good_from l zS 0 good_z (by omega)
  simpa [ofS] using this
theorem from_join : ∀ (l : List S33) (s : S50) (n : Nat), Good s n → n + l.length < 9223372036854775807 → ofFrom s l = joinS s (ofS l)
  | [], s, n, h, _ => by simp [ofFrom, ofS]; exact (join_z h).1.symm
  | p :: l, s, n, h, hl => by
    simp only [List.length_cons] at hl
    have g1 := good_join h (good_one p) (by omega : n + 1 < 9223372036854775807)
    show ofFrom (joinS s (oneS p)) l = joinS s (ofFrom (joinS zS (oneS p)) l)
    rw [from_join l _ (n + 1) g1 (by omega), (join_z (good_one p)).2, from_join l _ 1 (good_one p) (by omega)]
    exact join_assoc h (good_one p) (good_of l (by omega)) (by omega)
theorem of_append (l m : List S33) (h : l.length + m.length < 9223372036854775807) : ofS (l ++ m) = joinS (ofS l) (ofS m) := by
  have e : ofS (l ++ m) = ofFrom (ofS l) m := by simp [ofS, ofFrom, List.foldl_append]
  rw [e]
  exact from_join m (ofS l) l.length (good_of l (by omega)) (by omega)
theorem of_one (p : S33) : ofS [p] = oneS p := (join_z (good_one p)).2
theorem of_snoc (l : List S33) (p : S33) : ofS (l ++ [p]) = joinS (ofS l) (oneS p) := by simp [ofS, ofFrom, List.foldl_append]
section
variable {α : Type}
/-- A list's neighbours of one key, together. -/
def grp (κ : α → Int) : List α → List (Int × List α)
  | [] => []
  | p :: l => match grp κ l with
    | [] => [(κ p, [p])]
    | (k, g) :: r => if k = κ p then (k, p :: g) :: r else (κ p, [p]) :: (k, g) :: r
theorem grp_cons (κ : α → Int) (p : α) (l : List α) : grp κ (p :: l) = match grp κ l with
    | [] => [(κ p, [p])]
    | (k, g) :: r => if k = κ p then (k, p :: g) :: r else (κ p, [p]) :: (k, g) :: r := rfl
theorem grp_each (κ : α → Int) : ∀ (l : List α) (k : Int) (g : List α), (k, g) ∈ grp κ l → g ≠ [] ∧ ∀ p ∈ g, κ p = k
  | [], k, g, h => by simp [grp] at h
  | p :: l, k, g, h => by
    have ih := grp_each κ l
    rw [grp_cons] at h
    cases hg : grp κ l with
    | nil =>
      rw [hg] at h
      simp at h
      obtain ⟨rfl, rfl⟩ := h
      exact ⟨by simp, by simp⟩
    | cons x r =>
      obtain ⟨k', g'⟩ := x
      rw [hg] at h ih
      have h0 := ih k' g' List.mem_cons_self
      simp only at h
      split at h
      · rename_i e
        rcases List.mem_cons.1 h with h | h
        · injection h with h1 h2
          subst h1; subst h2
          exact ⟨by simp, fun q hq => by
            rcases List.mem_cons.1 hq with rfl | hq
            · exact e.symm
            · exact h0.2 q hq⟩
        · exact ih k g (List.mem_cons_of_mem _ h)
      · rcases List.mem_cons.1 h with h | h
        · injection h with h1 h2
          subst h1; subst h2
          exact ⟨by simp, by simp⟩
        · exact ih k g h
theorem grp_join (κ : α → Int) : ∀ (l : List α), (grp κ l).flatMap (·.2) = l
  | [] => by simp [grp]
  | p :: l => by
    have ih := grp_join κ l
    rw [grp_cons]
    cases hg : grp κ l with
    | nil =>
      rw [hg] at ih
      simp at ih
      subst ih
      simp
    | cons x r =>
      obtain ⟨k', g'⟩ := x
      rw [hg] at ih
      simp only
      split
      · simp at ih ⊢; rw [ih]
      · simp at ih ⊢; rw [ih]
/-- One more behind. -/
theorem grp_snoc (κ : α → Int) (p : α) : ∀ (l : List α), (∃ r g, grp κ l = r ++ [(κ p, g)] ∧ grp κ (l ++ [p]) = r ++ [(κ p, g ++ [p])]) ∨ ((∀ x ∈ (grp κ l).getLast?, x.1 ≠ κ p) ∧ grp κ (l ++ [p]) = grp κ l ++ [(κ p, [p])])
  | [] => Or.inr ⟨by simp [grp], by simp [grp]⟩
  | q :: l => by
    rcases grp_snoc κ p l with ⟨r, g, e1, e2⟩ | ⟨h1, h2⟩
    · left
      rw [List.cons_append, grp_cons, grp_cons, e1, e2]
      cases r with
      | nil =>
        simp only [List.nil_append]
        by_cases h : κ p = κ q
        · rw [if_pos h, if_pos h]; exact ⟨[], q :: g, by simp, by simp⟩
        · rw [if_neg h, if_neg h]; exact ⟨[(κ q, [q])], g, by simp, by simp⟩
      | cons x r =>
        obtain ⟨k, h⟩ := x
        simp only [List.cons_append]
        by_cases hk : k = κ q
        · rw [if_pos hk, if_pos hk]; exact ⟨(k, q :: h) :: r, g, by simp, by simp⟩
        · rw [if_neg hk, if_neg hk]; exact ⟨(κ q, [q]) :: (k, h) :: r, g, by simp, by simp⟩
    · rw [List.cons_append, grp_cons, grp_cons, h2]
      cases hg : grp κ l with
      | nil =>
        simp only [List.nil_append]
        by_cases h : κ p = κ q
        · rw [if_pos h]
          have hl : l = [] := by have := grp_join κ l; rw [hg] at this; simpa using this.symm
          left
          exact ⟨[], [q], by simp [h], by simp [h]⟩
        · rw [if_neg h]
          right
          exact ⟨by simp; exact fun e => h e.symm, by simp⟩
      | cons x r =>
        obtain ⟨k, h⟩ := x
        rw [hg] at h1
        simp only [List.cons_append]
        right
        by_cases hk : k = κ q
        · rw [if_pos hk, if_pos hk]
          refine ⟨?_, by simp⟩
          cases r with
          | nil => simpa using h1
          | cons y r => simpa using h1
        · rw [if_neg hk, if_neg hk]
          exact ⟨by simpa using h1, by simp⟩
end
theorem a_shown_ev : Ev (fun k => marigraphlaw12_shown.f k) true := Ev.of (fun k => marigraphlaw12_shown.mono k) (k := 40) (by decide +kernel)
theorem a_few (l : List S33) : ∃ x : List S33, marigraphlaw12_few.f l = some x ∧ x.length ≤ 400 ∧ ∀ p ∈ x, p ∈ l := by
  have hmn := @mn_le (l.length : Int) 400
  unfold marigraphlaw12_few.f
  rw [if_pos (by rcases hmn.2.2 with e | e <;> omega), if_pos (by omega)]
  exact ⟨_, rfl, by rw [List.length_take]; omega, fun p hp => List.mem_of_mem_take hp⟩
theorem a_rd (l : List S33) (i : Nat) (h : i < l.length) : rd_T33 l (i : Int) = l[i] := by
  unfold rd_T33; rw [Int.toNat_natCast]; exact getD_lt l i _ h
theorem a_rdb (l : List S68) (i : Nat) (h : i < l.length) : rd_T68 l (i : Int) = l[i] := by
  unfold rd_T68; rw [Int.toNat_natCast]; exact getD_lt l i _ h
theorem join_is (a b : S50) : agg_Join.f a.f0 a.f1 a.f2 a.f3 a.f4 a.f5 b.f0 b.f1 b.f2 b.f3 b.f4 b.f5 = some (tup (joinS a b)) := by
  unfold agg_Join.f joinS
  by_cases h1 : b.f0 ≤ 0
  · rw [if_pos h1, if_pos h1]
  · rw [if_neg h1, if_neg h1]
    by_cases h2 : a.f0 ≤ 0
    · rw [if_pos h2, if_pos h2]
    · rw [if_neg h2, if_neg h2]
theorem one_is (p : S33) : agg_one.f p.f0 p.f1 = some (tup (oneS p)) := rfl
theorem of_loop (l : List S33) (hl : l.length < 9223372036854775807) (d : Nat) : ∀ (i : Nat) (s : S50), l.length - i = d → i ≤ l.length →
    Ev (fun k => agg_Of.l0 k l (l.length : Int) (i : Int) s.f0 s.f1 s.f2 s.f3 s.f4 s.f5) (tup (ofFrom s (l.drop i))) := by
  induction d with
  | zero =>
    intro i s h1 h2
    have hi : i = l.length := by omega
    subst hi
    simp only [List.drop_length, ofFrom, List.foldl_nil]
    exact ev_stop fun k => by rw [agg_Of.l0, if_neg (by omega)]
  | succ d ih =>
    intro i s h1 h2
    have hlt : i < l.length := by omega
    have hwr : wrap64 ((i : Int) + 1) = ((i + 1 : Nat) : Int) := by rw [w64 (by omega) (by omega)]; omega
    have hdr : l.drop i = l[i] :: l.drop (i + 1) := List.drop_eq_getElem_cons hlt
    refine ev_succ (fun k => by rw [agg_Of.l0]) ?_
    rw [a_rd l i hlt, hwr, hdr]
    refine ev_pos (by omega) (ev_pos (by omega) (ev_pos (by omega) (ev_const (one_is _) (ev_const (join_is s (oneS l[i])) ?_))))
    exact ih (i + 1) (joinS s (oneS l[i])) (by omega) (by omega)
theorem of_ev (l : List S33) (hl : l.length < 9223372036854775807) : Ev (fun k => agg_Of.f k l) (tup (ofS l)) := by
  have := of_loop l hl _ 0 zS rfl (Nat.zero_le _)
  exact this
def ris : List S33 → Bool
  | [] => true
  | [_] => true
  | p :: q :: l => decide (p.f0 < q.f0) && ris (q :: l)
def Rising (l : List S33) : Prop := l.Pairwise (fun p q => p.f0 < q.f0)
theorem ris_rising : ∀ (l : List S33), ris l = true → Rising l
  | [], _ => List.Pairwise.nil
  | [p], _ => by simp [Rising]
  | p :: q :: l, h => by
    simp only [ris, Bool.and_eq_true, decide_eq_true_eq] at h
    have ih := ris_rising (q :: l) h.2
    refine List.Pairwise.cons (fun x hx => ?_) ih
    rcases List.mem_cons.1 hx with rfl | hx
    · exact h.1
    · exact Int.lt_trans h.1 ((List.pairwise_cons.1 ih).1 x hx)
theorem ris_drop (l : List S33) (i : Nat) (h : i + 1 < l.length) : ris (l.drop i) = (decide (l[i].f0 < l[i + 1].f0) && ris (l.drop (i + 1))) := by
  rw [List.drop_eq_getElem_cons (by omega : i < l.length), List.drop_eq_getElem_cons h, ris]
theorem ris_last (l : List S33) (i : Nat) (h : ¬ i + 1 < l.length) : ris (l.drop i) = true := by
  have : (l.drop i).length ≤ 1 := by rw [List.length_drop]; omega
  match hl : l.drop i with
  | [] => rfl
  | [p] => rfl
  | p :: q :: r => rw [hl] at this; simp at this
theorem right_loop (l : List S33) (hl : l.length < 9223372036854775807) (d : Nat) : ∀ i : Nat, l.length - (i + 1) = d → Ev (fun k => steps_Right.l0 k l (l.length : Int) ((i + 1 : Nat) : Int)) (ris (l.drop i)) := by
  induction d with
  | zero =>
    intro i hd
    rw [ris_last l i (by omega)]
    exact ev_stop fun k => by rw [steps_Right.l0, if_neg (by omega)]
  | succ d ih =>
    intro i hd
    have hlt : i + 1 < l.length := by omega
    have hwr : wrap64 (((i + 1 : Nat) : Int) + 1) = ((i + 1 + 1 : Nat) : Int) := by rw [w64 (by omega) (by omega)]; omega
    have hwm : wrap64 (((i + 1 : Nat) : Int) - 1) = ((i : Nat) : Int) := by rw [w64 (by omega) (by omega)]; omega
    refine ev_succ (fun k => by rw [steps_Right.l0]) ?_
    rw [hwr, hwm, a_rd l i (by omega), a_rd l (i + 1) hlt, ris_drop l i hlt]
    refine ev_pos (by omega) (ev_pos (by omega) (ev_pos (by omega) (ev_pos (by omega) (ev_pos (by omega) (ev_pos (by omega) ?_)))))
    by_cases hc : l[i].f0 ≥ l[i + 1].f0
    · refine ev_pos hc (ev_eq (Ev.now _) ?_)
      rw [decide_eq_false (by omega)]; rfl
    · refine ev_neg hc (ev_eq (ih (i + 1) (by omega)) ?_)
      rw [decide_eq_true (by omega)]; rfl
theorem right_ev (l : List S33) (hl : l.length < 9223372036854775807) : Ev (fun k => steps_Right.f k l) (ris l) := by
  unfold steps_Right.f
  by_cases h0 : l.length = 0
  · obtain rfl : l = [] := List.eq_nil_of_length_eq_zero h0
    exact ev_stop fun k => by rw [steps_Right.l0, if_neg (by simp)]; rfl
  · refine ev_succ (fun k => by rw [steps_Right.l0]) ?_
    refine ev_pos (by omega) (ev_neg (by omega) ?_)
    have := right_loop l hl _ 0 rfl
    rw [List.drop_zero] at this
    rw [show wrap64 (0 + 1) = ((0 + 1 : Nat) : Int) from w64 (by omega) (by omega)]
    exact this
section
variable {α : Type}
theorem grp_keys (κ : α → Int) : ∀ (l : List α), l.Pairwise (fun p q => κ p ≤ κ q) → (grp κ l).Pairwise (fun x y => x.1 < y.1)
  | [], _ => by simp [grp]
  | p :: l, h => by
    have h' := List.pairwise_cons.1 h
    have ih := grp_keys κ l h'.2
    have hge : ∀ x ∈ grp κ l, κ p ≤ x.1 := by
      intro x hx
      obtain ⟨hne, hk⟩ := grp_each κ l x.1 x.2 hx
      obtain ⟨q, hq⟩ := List.exists_mem_of_ne_nil _ hne
      rw [← hk q hq]
      refine h'.1 q ?_
      have := grp_join κ l
      rw [← this]
      exact List.mem_flatMap.2 ⟨x, hx, hq⟩
    rw [grp_cons]
    cases hg : grp κ l with
    | nil => simp
    | cons x r =>
      obtain ⟨k, g⟩ := x
      rw [hg] at ih hge
      have ih' := List.pairwise_cons.1 ih
      simp only
      split
      · rename_i e
        exact List.Pairwise.cons (fun y hy => ih'.1 y hy) ih'.2
      · rename_i e
        have := hge (k, g) List.mem_cons_self
        refine List.Pairwise.cons (fun y hy => ?_) ih
        rcases List.mem_cons.1 hy with rfl | hy
        · simp only at *; omega
        · have := ih'.1 y hy; simp only at *; omega
end
theorem bad_is (t : Int) : agg_bad.f t = some (decide (t < -1152921504606846976) || decide (t > 1152921504606846976)) := by
  unfold agg_bad.f
  by_cases h : t < -1152921504606846976
  · rw [if_pos h]; simp [h]
  · rw [if_neg h]; simp [h]
def inR (a b : Int) (p : S33) : Bool := decide (a ≤ p.f0) && decide (p.f0 < b)
theorem last_get {α : Type} (l : List α) (x d : α) : (l ++ [x]).getD l.length d = x := by
  rw [getD_lt _ _ _ (by simp)]; simp
def bkey (a step : Int) (p : S33) : Int := a + (p.f0 - a) / step * step
def mkB (x : Int × List S33) : S68 := ⟨x.1, ofS x.2⟩
def bks (a b step : Int) (l : List S33) : List S68 := (grp (bkey a step) (l.filter (inR a b))).map mkB
def bucR (l : List S33) (a b step : Int) : List S68 × Int :=
  if ris l = true ∧ a < b ∧ 1 ≤ step ∧ (-1152921504606846976 ≤ a ∧ a ≤ 1152921504606846976) ∧ (-1152921504606846976 ≤ b ∧ b ≤ 1152921504606846976) then
    (if (b - a - 1) / step ≥ 200 then ([], 3) else (bks a b step l, 0)) else ([], 1)
theorem bkey_range {a step : Int} (h : 1 ≤ step) (p : S33) : bkey a step p ≤ p.f0 ∧ p.f0 - step < bkey a step p := by
  have h1 := Int.emod_nonneg (p.f0 - a) (by omega : step ≠ 0)
  have h2 := Int.emod_lt_of_pos (p.f0 - a) (by omega : 0 < step)
  have h3 := Int.emod_add_mul_ediv (p.f0 - a) step
  rw [Int.mul_comm] at h3
  unfold bkey; omega
theorem bkey_code {a step : Int} (h : 1 ≤ step) (p : S33) (ha : -1152921504606846976 ≤ a) (hp : a ≤ p.f0) (hp2 : p.f0 ≤ 1152921504606846976) : wrap64 (a + wrap64 (wrap64 (Int.tdiv (wrap64 (p.f0 - a)) step) * step)) = bkey a step p := by
  have h1 := Int.emod_nonneg (p.f0 - a) (by omega : step ≠ 0)
  have h3 := Int.emod_add_mul_ediv (p.f0 - a) step
  rw [Int.mul_comm] at h3
  have h4 : 0 ≤ (p.f0 - a) / step := Int.ediv_nonneg (by omega) (by omega)
  have h5 : (p.f0 - a) / step ≤ p.f0 - a := Int.ediv_le_self _ (by omega)
  have h6 : 0 ≤ (p.f0 - a) / step * step := Int.mul_nonneg h4 (by omega)
  unfold bkey
  rw [w64 (x := p.f0 - a) (by omega) (by omega), Int.tdiv_eq_ediv_of_nonneg (by omega), w64 (x := (p.f0 - a) / step) (by omega) (by omega), w64 (x := (p.f0 - a) / step * step) (by omega) (by omega), w64 (by omega) (by omega)]
theorem buc_loop {a b step : Int} (hs : 1 ≤ step) (ha : -1152921504606846976 ≤ a) (hb : b ≤ 1152921504606846976) (l : List S33) (hl : l.length < 1000000) (d : Nat) :
    ∀ (i : Nat), l.length - i = d → i ≤ l.length → (grp (bkey a step) ((l.take i).filter (inR a b))).length ≤ i → Ev (fun k => agg_Buckets.l0 k a b step ((grp (bkey a step) ((l.take i).filter (inR a b))).map mkB) l (l.length : Int) (i : Int)) (bks a b step l, 0) := by
  induction d with
  | zero =>
    intro i h1 h2 _
    have hi : i = l.length := by omega
    subst hi
    rw [List.take_length]
    exact ev_stop fun k => by rw [agg_Buckets.l0, if_neg (by omega)]; rfl
  | succ d ih =>
    intro i h1 h2 h3
    have hlt : i < l.length := by omega
    have hwr : wrap64 ((i : Int) + 1) = ((i + 1 : Nat) : Int) := by rw [w64 (by omega) (by omega)]; omega
    have htk : l.take (i + 1) = l.take i ++ [l[i]] := List.take_succ_eq_append_getElem hlt
    have ih := ih (i + 1) (by omega) (by omega)
    rw [htk, List.filter_append] at ih
    refine ev_succ (fun k => by rw [agg_Buckets.l0]) ?_
    rw [a_rd l i hlt]
    generalize hF : (l.take i).filter (inR a b) = F at h3 ih ⊢
    generalize l[i] = p at ih ⊢
    refine ev_pos (by omega) (ev_pos (by omega) (ev_pos (by omega) ?_))
    have hskip : inR a b p = false → ∀ c : Bool, c = true → Ev (fun k => agg_Buckets.j2 k a b step ((grp (bkey a step) F).map mkB) l (l.length : Int) (i : Int) c p.f0 p.f1) (bks a b step l, 0) := by
      intro hp c hc
      subst hc
      refine ev_succ (fun k => by rw [agg_Buckets.j2]) ?_
      refine ev_pos rfl ?_
      rw [hwr]
      have e : List.filter (inR a b) [p] = [] := by simp [hp]
      rw [e, List.append_nil] at ih
      exact ih (by omega)
    by_cases hlo : p.f0 < a
    · exact ev_pos hlo (hskip (by simp [inR]; omega) _ rfl)
    · refine ev_neg hlo ?_
      by_cases hhi : p.f0 ≥ b
      · exact hskip (by simp [inR]; omega) _ (by simpa using hhi)
      · have hin : inR a b p = true := by simp [inR]; omega
        have e : List.filter (inR a b) [p] = [p] := by simp [hin]
        rw [e] at ih
        clear hskip e hin hF htk
        refine ev_succ (fun k => by rw [agg_Buckets.j2]) ?_
        refine ev_neg (by simpa using hhi) (ev_neg (by omega) ?_)
        rw [bkey_code hs p ha (by omega) (by omega)]
        rcases grp_snoc (bkey a step) p F with ⟨r, g, e1, e2⟩ | ⟨n1, e2⟩
        · have m1 : (r ++ [(bkey a step p, g)]).map mkB = r.map mkB ++ [⟨bkey a step p, ofS g⟩] := by simp [mkB]
          have m2 : (r ++ [(bkey a step p, g ++ [p])]).map mkB = r.map mkB ++ [⟨bkey a step p, joinS (ofS g) (oneS p)⟩] := by simp [mkB, of_snoc]
          rw [e1] at h3 ⊢
          rw [e2, m2] at ih
          rw [m1]
          have h3' : r.length + 1 ≤ i := by simpa using h3
          have ih := ih (by simp; omega)
          generalize hR : r.map mkB = R at ih ⊢
          have hRl : R.length = r.length := by rw [← hR]; simp
          generalize bkey a step p = K at ih ⊢
          generalize ofS g = s at ih ⊢
          clear hR m1 m2 e1 e2
          have hlen : ((R ++ [(⟨K, s⟩ : S68)]).length : Int) = (R.length : Int) + 1 := by simp
          have hrd : rd_T68 (R ++ [⟨K, s⟩]) (R.length : Int) = ⟨K, s⟩ := by
            unfold rd_T68; rw [Int.toNat_natCast, last_get]
          rw [hlen, w64 (x := (R.length : Int) + 1 - 1) (by omega) (by omega), show (R.length : Int) + 1 - 1 = (R.length : Int) by omega, hrd]
          refine ev_pos (by omega) (ev_pos (by omega) (ev_pos (by omega) ?_))
          refine ev_succ (fun k => by rw [agg_Buckets.j3]) ?_
          rw [hlen, hrd, hwr]
          refine ev_pos (by simp) (ev_pos (by omega) (ev_pos (by omega) (ev_const (one_is p) (ev_const (join_is s (oneS p)) ?_))))
          have hset : (R ++ [(⟨K, s⟩ : S68)]).set (R.length : Int).toNat ⟨K, joinS s (oneS p)⟩ = R ++ [⟨K, joinS s (oneS p)⟩] := by
            rw [Int.toNat_natCast, List.set_append_right _ _ (Nat.le_refl _)]; simp
          exact (congrArg (fun z => Ev (fun k => agg_Buckets.l0 k a b step z l (l.length : Int) ((i + 1 : Nat) : Int)) (bks a b step l, 0)) hset).mpr ih
        · have m2 : (grp (bkey a step) F ++ [(bkey a step p, [p])]).map mkB = (grp (bkey a step) F).map mkB ++ [⟨bkey a step p, oneS p⟩] := by simp [mkB, of_one]
          rw [e2, m2] at ih
          generalize hG : grp (bkey a step) F = G at *
          have ih := ih (by simp; omega)
          have hj : ∀ z, Ev (fun k => agg_Buckets.j3 k a b step (G.map mkB) (bkey a step p) z l (l.length : Int) (i : Int) false p.f0 p.f1) (bks a b step l, 0) := by
            intro z
            refine ev_succ (fun k => by rw [agg_Buckets.j3]) ?_
            rw [hwr]
            refine ev_neg (by simp) (ev_const (one_is p) (ev_pos (by simp; omega) ?_))
            exact ih
          rcases List.eq_nil_or_concat G with rfl | ⟨D, x, rfl⟩
          · refine ev_neg ?_ (hj _)
            rw [List.map_nil, List.length_nil, w64 (by omega) (by omega)]; omega
          · rw [List.concat_eq_append] at hj n1 h3 ⊢
            have hx : x.1 ≠ bkey a step p := n1 x (by simp)
            have hlen : (((D ++ [x]).map mkB).length : Int) = (D.length : Int) + 1 := by simp
            have hrd : rd_T68 ((D ++ [x]).map mkB) (D.length : Int) = mkB x := by
              rw [List.map_append]
              unfold rd_T68
              rw [Int.toNat_natCast, show D.length = (D.map mkB).length by simp]
              exact last_get _ _ _
            have hdl : D.length < 1000000 := by simp at h3; omega
            rw [hlen, w64 (x := (D.length : Int) + 1 - 1) (by omega) (by omega), show (D.length : Int) + 1 - 1 = (D.length : Int) by omega, hrd]
            refine ev_pos (by omega) (ev_pos (by omega) (ev_pos (by omega) ?_))
            have : ((mkB x).f0 == bkey a step p) = false := by simpa [mkB] using hx
            rw [this]
            exact hj _
theorem div_code {a b step : Int} (hs : 1 ≤ step) (ha : -1152921504606846976 ≤ a) (hb : b ≤ 1152921504606846976) (hab : a < b) : wrap64 (Int.tdiv (wrap64 (wrap64 (b - a) - 1)) step) = (b - a - 1) / step ∧ 0 ≤ (b - a - 1) / step ∧ (b - a - 1) / step ≤ b - a - 1 := by
  have h4 : 0 ≤ (b - a - 1) / step := Int.ediv_nonneg (by omega) (by omega)
  have h5 : (b - a - 1) / step ≤ b - a - 1 := Int.ediv_le_self _ (by omega)
  refine ⟨?_, h4, h5⟩
  rw [w64 (x := b - a) (by omega) (by omega), w64 (x := b - a - 1) (by omega) (by omega), Int.tdiv_eq_ediv_of_nonneg (by omega), w64 (by omega) (by omega)]
theorem buckets_ev (l : List S33) (a b step : Int) (hl : l.length < 1000000) : Ev (fun k => agg_Buckets.f k l a b step) (bucR l a b step) := by
  have hbad : ∀ c : Bool, c = true → ¬ (ris l = true ∧ a < b ∧ 1 ≤ step ∧ (-1152921504606846976 ≤ a ∧ a ≤ 1152921504606846976) ∧ (-1152921504606846976 ≤ b ∧ b ≤ 1152921504606846976)) → Ev (fun k => agg_Buckets.j0 k l a b step c) (bucR l a b step) := by
    intro c hc hn
    unfold bucR
    rw [if_neg hn]
    exact ev_stop fun k => by rw [agg_Buckets.j0, if_pos hc]
  unfold agg_Buckets.f
  refine ev_bind (right_ev l (by omega)) ?_
  by_cases h1 : ris l = true
  · refine ev_pos h1 ?_
    by_cases h2 : a ≥ b
    · exact ev_pos h2 (hbad _ rfl (by omega))
    · refine ev_neg h2 ?_
      by_cases h3 : step < 1
      · exact ev_pos h3 (hbad _ rfl (by omega))
      · refine ev_neg h3 (ev_const (bad_is a) ?_)
        by_cases h4 : a < -1152921504606846976 ∨ a > 1152921504606846976
        · exact ev_pos (by simpa using h4) (hbad _ rfl (by omega))
        · refine ev_neg (by simpa using h4) (ev_const (bad_is b) ?_)
          by_cases h5 : b < -1152921504606846976 ∨ b > 1152921504606846976
          · exact hbad _ (by simpa using h5) (by omega)
          · have hd := @div_code a b step (by omega) (by omega) (by omega) (by omega)
            refine ev_succ (fun k => by rw [agg_Buckets.j0]) ?_
            refine ev_neg (by simpa using h5) (ev_neg (by omega) ?_)
            rw [hd.1]
            unfold bucR
            rw [if_pos ⟨h1, by omega, by omega, by omega, by omega⟩]
            by_cases h6 : (b - a - 1) / step ≥ 200
            · rw [if_pos h6]; exact ev_pos h6 (Ev.now _)
            · rw [if_neg h6]
              refine ev_neg h6 ?_
              exact buc_loop (by omega) (by omega) (by omega) l hl _ 0 rfl (Nat.zero_le _) (by simp [grp])
  · exact ev_neg h1 (hbad _ rfl (fun h => h1 h.1))
end Go.Proofs.Ytjkpdjadbeidnaa.Pure
