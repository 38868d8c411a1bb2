/- Sums of points, joined; points grouped by a key: the plain functions to which the package agg and its reference come. -/
import Derived.Test.YtjkpdjadbeidnaaPl
import Derived.Test.YtjkpdjadbeidnaaX0
namespace Go.Proofs.Ytjkpdjadbeidnaa.Pure
open Go.RowKit Go.Proofs.Ytjkpdjadbeidnaa.X Go.Proofs.Ytjkpdjadbeidnaa.Pl Go.Proofs.YtjkpdjadbeidnaaW.PrintWords Go.Proofs.YtjkpdjadbeidnaaW.PrintLast Go.Proofs.YtjkpdjadbeidnaaW.PrintMore

def joinS (a b : S50) : S50 := if b.f0 ≤ 0 then a else if a.f0 ≤ 0 then b else ⟨wrap64 (a.f0 + b.f0), wrap64 (a.f1 + b.f1), mn a.f2 b.f2, mx a.f3 b.f3, a.f4, b.f5⟩
def oneS (p : S33) : S50 := ⟨1, p.f1, p.f1, p.f1, p.f1, p.f1⟩
def zS : S50 := ⟨0, 0, 0, 0, 0, 0⟩
def ofFrom (s : S50) (l : List S33) : S50 := l.foldl (fun s p => joinS s (oneS p)) s
def ofS (l : List S33) : S50 := ofFrom zS l
abbrev tup (s : S50) : Int × Int × Int × Int × Int × Int := (s.f0, s.f1, s.f2, s.f3, s.f4, s.f5)

/-- What came of n points. -/
def Good (s : S50) (n : Nat) : Prop := s.f0 = (n : Int) ∧ (n = 0 → s = zS)
theorem good_z : Good zS 0 := ⟨rfl, fun _ => rfl⟩
theorem good_one (p : S33) : Good (oneS p) 1 := ⟨rfl, fun h => by omega⟩
theorem good_join {a b : S50} {n m : Nat} (ha : Good a n) (hb : Good b m) (h : n + m < 9223372036854775807) : Good (joinS a b) (n + m) := by
  unfold joinS
  have h1 := ha.1
  have h2 := hb.1
  by_cases hm : m = 0
  · rw [if_pos (by omega)]
    subst hm
    simpa using ha
  · rw [if_neg (by omega)]
    by_cases hn : n = 0
    · rw [if_pos (by omega)]
      subst hn
      simpa using hb
    · rw [if_neg (by omega)]
      refine ⟨?_, fun h => by omega⟩
      show wrap64 (a.f0 + b.f0) = _
      rw [h1, h2, w64 (by omega) (by omega)]
      omega
theorem join_z {a : S50} {n : Nat} (h : Good a n) : joinS a zS = a ∧ joinS zS a = a := by
  constructor
  · unfold joinS; rw [if_pos (by simp [zS])]
  · unfold joinS
    by_cases hn : n = 0
    · rw [h.2 hn]; rfl
    · rw [if_neg (by have := h.1; omega), if_pos (by simp [zS])]
theorem mn_assoc (a b c : Int) : mn (mn a b) c = mn a (mn b c) := by
  unfold mn; split <;> split <;> (try split) <;> (try split) <;> omega
theorem mx_assoc (a b c : Int) : mx (mx a b) c = mx a (mx b c) := by
  unfold mx; split <;> split <;> (try split) <;> (try split) <;> omega
theorem wrap_assoc (a b c : Int) : wrap64 (wrap64 (a + b) + c) = wrap64 (a + wrap64 (b + c)) := by
  unfold wrap64; omega
theorem join_assoc {a b c : S50} {n m k : Nat} (ha : Good a n) (hb : Good b m) (hc : Good c k) (h : n + m + k < 9223372036854775807) : joinS (joinS a b) c = joinS a (joinS b c) := by
  have g1 := good_join ha hb (by omega)
  have g2 := good_join hb hc (by omega)
  by_cases hk : k = 0
  · rw [hc.2 hk, (join_z g1).1, (join_z hb).1]
  · by_cases hm : m = 0
    · rw [hb.2 hm, (join_z ha).1, (join_z hc).2]
    · by_cases hn : n = 0
      · rw [ha.2 hn, (join_z hb).2, (join_z g2).2]
      · have a1 := ha.1
        have b1 := hb.1
        have c1 := hc.1
        have e1 : joinS a b = ⟨wrap64 (a.f0 + b.f0), wrap64 (a.f1 + b.f1), mn a.f2 b.f2, mx a.f3 b.f3, a.f4, b.f5⟩ := by
          unfold joinS; rw [if_neg (by omega), if_neg (by omega)]
        have e2 : joinS b c = ⟨wrap64 (b.f0 + c.f0), wrap64 (b.f1 + c.f1), mn b.f2 c.f2, mx b.f3 c.f3, b.f4, c.f5⟩ := by
          unfold joinS; rw [if_neg (by omega), if_neg (by omega)]
        have w1 : wrap64 (a.f0 + b.f0) = a.f0 + b.f0 := w64 (by omega) (by omega)
        have w2 : wrap64 (b.f0 + c.f0) = b.f0 + c.f0 := w64 (by omega) (by omega)
        rw [e1, e2]
        unfold joinS
        simp only [w1, w2]
        rw [if_neg (by omega), if_neg (by omega), if_neg (by omega), if_neg (by omega), mn_assoc, mx_assoc, wrap_assoc, Int.add_assoc]

theorem good_from : ∀ (l : List S33) (s : S50) (n : Nat), Good s n → n + l.length < 9223372036854775807 → Good (ofFrom s l) (n + l.length)
  | [], s, n, h, _ => by simpa [ofFrom] using h
  | p :: l, s, n, h, hl => by
    simp only [List.length_cons] at hl
    have := good_from l (joinS s (oneS p)) (n + 1) (good_join h (good_one p) (by omega)) (by omega)
    simp only [List.length_cons]
    rw [show n + (l.length + 1) = n + 1 + l.length by omega]
    exact this
theorem good_of (l : List S33) (h : l.length < 9223372036854775807) : Good (ofS l) l.length := by
  have := good_from l zS 0 good_z (by omega)
  simpa [ofS] using this
theorem from_join : ∀ (l : List S33) (s : S50) (n : Nat), Good s n → n + l.length < 9223372036854775807 → ofFrom s l = joinS s (ofS l)
  | [], s, n, h, _ => by simp [ofFrom, ofS]; exact (join_z h).1.symm
  | p :: l, s, n, h, hl => by
    simp only [List.length_cons] at hl
    have g1 := good_join h (good_one p) (by omega : n + 1 < 9223372036854775807)
    show ofFrom (joinS s (oneS p)) l = joinS s (ofFrom (joinS zS (oneS p)) l)
    rw [from_join l _ (n + 1) g1 (by omega), (join_z (good_one p)).2, from_join l _ 1 (good_one p) (by omega)]
    exact join_assoc h (good_one p) (good_of l (by omega)) (by omega)
theorem of_append (l m : List S33) (h : l.length + m.length < 9223372036854775807) : ofS (l ++ m) = joinS (ofS l) (ofS m) := by
  have e : ofS (l ++ m) = ofFrom (ofS l) m := by simp [ofS, ofFrom, List.foldl_append]
  rw [e]
  exact from_join m (ofS l) l.length (good_of l (by omega)) (by omega)
theorem of_one (p : S33) : ofS [p] = oneS p := (join_z (good_one p)).2
theorem of_snoc (l : List S33) (p : S33) : ofS (l ++ [p]) = joinS (ofS l) (oneS p) := by simp [ofS, ofFrom, List.foldl_append]

/-! ### Groups -/
section
variable {α : Type}
/-- A list's neighbours of one key, together. -/
def grp (κ : α → Int) : List α → List (Int × List α)
  | [] => []
  | p :: l => match grp κ l with
    | [] => [(κ p, [p])]
    | (k, g) :: r => if k = κ p then (k, p :: g) :: r else (κ p, [p]) :: (k, g) :: r

theorem grp_cons (κ : α → Int) (p : α) (l : List α) : grp κ (p :: l) = match grp κ l with
    | [] => [(κ p, [p])]
    | (k, g) :: r => if k = κ p then (k, p :: g) :: r else (κ p, [p]) :: (k, g) :: r := rfl

theorem grp_each (κ : α → Int) : ∀ (l : List α) (k : Int) (g : List α), (k, g) ∈ grp κ l → g ≠ [] ∧ ∀ p ∈ g, κ p = k
  | [], k, g, h => by simp [grp] at h
  | p :: l, k, g, h => by
    have ih := grp_each κ l
    rw [grp_cons] at h
    cases hg : grp κ l with
    | nil =>
      rw [hg] at h
      simp at h
      obtain ⟨rfl, rfl⟩ := h
      exact ⟨by simp, by simp⟩
    | cons x r =>
      obtain ⟨k', g'⟩ := x
      rw [hg] at h ih
      have h0 := ih k' g' List.mem_cons_self
      simp only at h
      split at h
      · rename_i e
        rcases List.mem_cons.1 h with h | h
        · injection h with h1 h2
          subst h1; subst h2
          exact ⟨by simp, fun q hq => by
            rcases List.mem_cons.1 hq with rfl | hq
            · exact e.symm
            · exact h0.2 q hq⟩
        · exact ih k g (List.mem_cons_of_mem _ h)
      · rcases List.mem_cons.1 h with h | h
        · injection h with h1 h2
          subst h1; subst h2
          exact ⟨by simp, by simp⟩
        · exact ih k g h

theorem grp_join (κ : α → Int) : ∀ (l : List α), (grp κ l).flatMap (·.2) = l
  | [] => by simp [grp]
  | p :: l => by
    have ih := grp_join κ l
    rw [grp_cons]
    cases hg : grp κ l with
    | nil =>
      rw [hg] at ih
      simp at ih
      subst ih
      simp
    | cons x r =>
      obtain ⟨k', g'⟩ := x
      rw [hg] at ih
      simp only
      split
      · simp at ih ⊢; rw [ih]
      · simp at ih ⊢; rw [ih]

theorem grp_head (κ : α → Int) (p : α) (l : List α) : ∃ g r, grp κ (p :: l) = (κ p, p :: g) :: r := by
  rw [grp_cons]
  cases hg : grp κ l with
  | nil => exact ⟨[], [], rfl⟩
  | cons x r =>
    obtain ⟨k', g'⟩ := x
    simp only
    split
    · rename_i e; exact ⟨g', r, by rw [e]⟩
    · exact ⟨[], _, rfl⟩

/-- Neighbours of one key ahead of a list. -/
theorem grp_same (κ : α → Int) (t : Int) : ∀ (A B : List α), A ≠ [] → (∀ p ∈ A, κ p = t) → grp κ (A ++ B) = match grp κ B with
    | [] => [(t, A)]
    | (k, g) :: r => if k = t then (t, A ++ g) :: r else (t, A) :: (k, g) :: r
  | [p], B, _, h => by
    have hp := h p List.mem_cons_self
    show grp κ (p :: B) = _
    rw [grp_cons, hp]
    cases grp κ B with
    | nil => rfl
    | cons x r => obtain ⟨k, g⟩ := x; simp only; split <;> simp_all
  | p :: q :: A, B, _, h => by
    have hp := h p List.mem_cons_self
    have ih := grp_same κ t (q :: A) B (by simp) (fun x hx => h x (List.mem_cons_of_mem _ hx))
    show grp κ (p :: ((q :: A) ++ B)) = _
    rw [grp_cons, ih, hp]
    cases grp κ B with
    | nil => simp
    | cons x r => obtain ⟨k, g⟩ := x; by_cases hk : k = t <;> simp [hk]

theorem grp_split (κ : α → Int) (t : Int) (A B : List α) (hA : A ≠ []) (h : ∀ p ∈ A, κ p = t) (hB : ∀ p ∈ B.head?, κ p ≠ t) : grp κ (A ++ B) = (t, A) :: grp κ B := by
  rw [grp_same κ t A B hA h]
  cases B with
  | nil => rfl
  | cons q B =>
    obtain ⟨g, r, e⟩ := grp_head κ q B
    rw [e]
    simp only
    rw [if_neg (hB q (by simp))]

/-- One more behind. -/
theorem grp_snoc (κ : α → Int) (p : α) : ∀ (l : List α), (∃ r g, grp κ l = r ++ [(κ p, g)] ∧ grp κ (l ++ [p]) = r ++ [(κ p, g ++ [p])]) ∨ ((∀ x ∈ (grp κ l).getLast?, x.1 ≠ κ p) ∧ grp κ (l ++ [p]) = grp κ l ++ [(κ p, [p])])
  | [] => Or.inr ⟨by simp [grp], by simp [grp]⟩
  | q :: l => by
    rcases grp_snoc κ p l with ⟨r, g, e1, e2⟩ | ⟨h1, h2⟩
    · left
      rw [List.cons_append, grp_cons, grp_cons, e1, e2]
      cases r with
      | nil =>
        simp only [List.nil_append]
        by_cases h : κ p = κ q
        · rw [if_pos h, if_pos h]; exact ⟨[], q :: g, by simp, by simp⟩
        · rw [if_neg h, if_neg h]; exact ⟨[(κ q, [q])], g, by simp, by simp⟩
      | cons x r =>
        obtain ⟨k, h⟩ := x
        simp only [List.cons_append]
        by_cases hk : k = κ q
        · rw [if_pos hk, if_pos hk]; exact ⟨(k, q :: h) :: r, g, by simp, by simp⟩
        · rw [if_neg hk, if_neg hk]; exact ⟨(κ q, [q]) :: (k, h) :: r, g, by simp, by simp⟩
    · rw [List.cons_append, grp_cons, grp_cons, h2]
      cases hg : grp κ l with
      | nil =>
        simp only [List.nil_append]
        by_cases h : κ p = κ q
        · rw [if_pos h]
          have hl : l = [] := by have := grp_join κ l; rw [hg] at this; simpa using this.symm
          left
          exact ⟨[], [q], by simp [h], by simp [h]⟩
        · rw [if_neg h]
          right
          exact ⟨by simp; exact fun e => h e.symm, by simp⟩
      | cons x r =>
        obtain ⟨k, h⟩ := x
        rw [hg] at h1
        simp only [List.cons_append]
        right
        by_cases hk : k = κ q
        · rw [if_pos hk, if_pos hk]
          refine ⟨?_, by simp⟩
          cases r with
          | nil => simpa using h1
          | cons y r => simpa using h1
        · rw [if_neg hk, if_neg hk]
          exact ⟨by simpa using h1, by simp⟩
end
end Go.Proofs.Ytjkpdjadbeidnaa.Pure
