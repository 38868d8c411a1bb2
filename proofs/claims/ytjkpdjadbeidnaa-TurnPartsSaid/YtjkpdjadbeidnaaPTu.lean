/- What the functions of the package turn, and of its reference, come to, as plain functions on whole numbers. -/
import Derived.Test.YtjkpdjadbeidnaaPl
import Derived.Test.YtjkpdjadbeidnaaFfl
import Derived.Test.YtjkpdjadbeidnaaT1
import Derived.Test.YtjkpdjadbeidnaaT2
import Derived.Test.YtjkpdjadbeidnaaT4
import Derived.Test.YtjkpdjadbeidnaaT5
import Derived.Test.YtjkpdjadbeidnaaT6
import Derived.Test.YtjkpdjadbeidnaaT8
namespace Go.Proofs.Ytjkpdjadbeidnaa.Pure
open Go.RowKit Go.Proofs.Ytjkpdjadbeidnaa.T Go.Proofs.Ytjkpdjadbeidnaa.Pl Go.Proofs.Ytjkpdjadbeidnaa.Flo Go.Proofs.YtjkpdjadbeidnaaW.PrintWords Go.Proofs.YtjkpdjadbeidnaaW.PrintLast Go.Proofs.YtjkpdjadbeidnaaW.PrintMore

def okDay (day : Int) : Prop := 4 ≤ day ∧ day ≤ 1099511627776 ∧ day % 4 = 0
/-- Which quarter of a day a time is in. -/
def qd (t day : Int) : Int := (t % day) / (day / 4)

theorem dayq {day : Int} (h : okDay day) : wrap64 (Int.tdiv day 4) = day / 4 ∧ 1 ≤ day / 4 := by
  obtain ⟨h1, h2, h3⟩ := h
  rw [tdiv_pos (by omega), w64 (by omega) (by omega)]
  omega

theorem qd_range {t day : Int} (h : okDay day) : 0 ≤ qd t day ∧ qd t day < 4 := by
  obtain ⟨h1, h2, h3⟩ := h
  unfold qd
  have ha := Int.emod_nonneg t (by omega : day ≠ 0)
  have hb := Int.emod_lt_of_pos t (by omega : 0 < day)
  constructor
  · exact Int.ediv_nonneg ha (by omega)
  · exact Int.ediv_lt_of_lt_mul (by omega) (by omega)

theorem quarter_ok {t day : Int} (h : okDay day) : turn_Quarter.f t day = some (qd t day, true) := by
  have hq := dayq h
  have hr := @qd_range t day h
  obtain ⟨h1, h2, h3⟩ := h
  have hm := @tmod_range t day (by omega)
  unfold turn_Quarter.f
  rw [if_neg (by omega), if_neg (by omega), if_pos (by rw [tmod_pos (by omega)]; omega), if_neg (by omega), hq.1, if_neg (by omega), w64 (x := Int.tmod t day + day) (by omega) (by omega), tmod_fix (by omega)]
  have ha := Int.emod_nonneg t (by omega : day ≠ 0)
  rw [tdiv_pos ha, w64 (by unfold qd at hr; omega) (by unfold qd at hr; omega)]
  rfl

theorem quarter_no {t day : Int} (h : ¬ okDay day) : turn_Quarter.f t day = some (0, false) := by
  unfold turn_Quarter.f
  by_cases h1 : day < 4
  · rw [if_pos h1]
  · rw [if_neg h1]
    by_cases h2 : day > 1099511627776
    · rw [if_pos h2]
    · rw [if_neg h2, if_neg]
      rw [tmod_pos (by omega)]
      intro h3
      exact h ⟨by omega, by omega, h3⟩

theorem ref_quarter_ok {t day : Int} (h : okDay day) : Ev (fun k => marigraphref13_Quarter.f k t day) (qd t day, true) := by
  have hq := dayq h
  have hr := @qd_range t day h
  obtain ⟨h1, h2, h3⟩ := h
  have hm := @tmod_range t day (by omega)
  have hi := @tmod_if t day (by omega)
  have ha := Int.emod_nonneg t (by omega : day ≠ 0)
  unfold marigraphref13_Quarter.f
  refine ev_neg (by omega) (ev_neg (by omega) ?_)
  have hb : (Int.tmod day 4 != 0) = false := by rw [tmod_pos (by omega)]; simp; omega
  rw [hb]
  refine ev_stop fun k => ?_
  rw [marigraphref13_Quarter.j0, if_neg (by simp), if_neg (by omega), hq.1]
  by_cases hn : Int.tmod t day < 0
  · rw [if_pos hn, if_neg (by omega), w64 (x := Int.tmod t day + day) (by omega) (by omega)]
    rw [if_pos hn] at hi
    rw [hi, tdiv_pos ha, w64 (by unfold qd at hr; omega) (by unfold qd at hr; omega)]
    rfl
  · rw [if_neg hn, if_neg (by omega)]
    rw [if_neg hn] at hi
    rw [hi, tdiv_pos ha, w64 (by unfold qd at hr; omega) (by unfold qd at hr; omega)]
    rfl

theorem ref_quarter_no {t day : Int} (h : ¬ okDay day) : Ev (fun k => marigraphref13_Quarter.f k t day) (0, false) := by
  have hj : ∀ b : Bool, b = true → Ev (fun k => marigraphref13_Quarter.j0 k t day b) (0, false) := by
    intro b hb
    exact ev_stop fun k => by rw [marigraphref13_Quarter.j0, if_pos hb]
  unfold marigraphref13_Quarter.f
  by_cases h1 : day < 4
  · exact ev_pos h1 (hj _ rfl)
  · refine ev_neg h1 ?_
    by_cases h2 : day > 1099511627776
    · exact ev_pos h2 (hj _ rfl)
    · refine ev_neg h2 (hj _ ?_)
      rw [tmod_pos (by omega)]
      simp
      intro h3
      exact h ⟨by omega, by omega, h3⟩

/-- A number of two whole ones, by so many quarters. -/
def rot (m : Int) (a b : Int) : Int × Int := if m = 1 then (-b, a) else if m = 2 then (-a, -b) else if m = 3 then (b, -a) else (a, b)
def C (p : Int × Int) : CB := ⟨wordI p.1, wordI p.2⟩
def small (p : Int × Int) : Prop := p.1.natAbs < 2 ^ 53 ∧ p.2.natAbs < 2 ^ 53
theorem rot_small {m a b : Int} (h : small (a, b)) : small (rot m a b) := by
  obtain ⟨h1, h2⟩ := h
  unfold rot small at *
  split
  · exact ⟨by simp at *; omega, h1⟩
  · split
    · exact ⟨by simp at *; omega, by simp at *; omega⟩
    · split
      · exact ⟨h2, by simp at *; omega⟩
      · exact ⟨h1, h2⟩

theorem plain_is {x y : Nat} {a b : Int} (hx : Is x a) (hy : Is y b) (h : small (a, b)) : turn_plain.f ⟨x, y⟩ = some (C (a, b)) := by
  have hz : IsP 0 0 := isP_word (n := 0) (by decide)
  have h1 := fadd_is hx hz (by simpa using h.1)
  have h2 := fadd_is hy hz (by simpa using h.2)
  unfold turn_plain.f
  rw [if_pos h1.1, if_pos h2.1]
  show some (⟨fadd x 0, fadd y 0⟩ : CB) = _
  rw [h1.2, h2.2, Int.add_zero, Int.add_zero]
  rfl

theorem by_is {p : Int × Int} {q : Int} (h : small p) : turn_By.f (C p) q = some (C (rot (q % 4) p.1 p.2)) := by
  have hi : Int.tmod (wrap64 ((Int.tmod q 4) + 4)) 4 = q % 4 := by
    have := @tmod_range q 4 (by omega)
    rw [w64 (by omega) (by omega), tmod_fix (by omega)]
  have ha := (isP_word h.1).is
  have hb := (isP_word h.2).is
  have hna := fneg_is h.1
  have hnb := fneg_is h.2
  unfold turn_By.f rot
  rw [hi]
  by_cases h1 : q % 4 = 1
  · rw [if_pos h1, if_pos h1, show (⟨fneg (C p).im, (C p).re⟩ : CB) = ⟨fneg (wordI p.2), wordI p.1⟩ from rfl, plain_is hnb ha ⟨by simpa using h.2, h.1⟩]; rfl
  · rw [if_neg h1, if_neg h1]
    by_cases h2 : q % 4 = 2
    · rw [if_pos h2, if_pos h2, show (⟨fneg (C p).re, fneg (C p).im⟩ : CB) = ⟨fneg (wordI p.1), fneg (wordI p.2)⟩ from rfl, plain_is hna hnb ⟨by simpa using h.1, by simpa using h.2⟩]; rfl
    · rw [if_neg h2, if_neg h2]
      by_cases h3 : q % 4 = 3
      · rw [if_pos h3, if_pos h3, show (⟨(C p).im, fneg (C p).re⟩ : CB) = ⟨wordI p.2, fneg (wordI p.1)⟩ from rfl, plain_is hb hna ⟨h.2, by simpa using h.1⟩]; rfl
      · rw [if_neg h3, if_neg h3, show C p = ⟨wordI p.1, wordI p.2⟩ from rfl, plain_is ha hb h]; rfl

theorem ceq_C {p r : Int × Int} (h : small p) (k : small r) : ceq (C p).re (C p).im (C r).re (C r).im = (decide (p.1 = r.1) && decide (p.2 = r.2)) := by
  unfold ceq
  rw [show (C p).re = wordI p.1 from rfl, show (C p).im = wordI p.2 from rfl, show (C r).re = wordI r.1 from rfl, show (C r).im = wordI r.2 from rfl, feq_is (isP_word h.1).is (isP_word k.1).is, feq_is (isP_word h.2).is (isP_word k.2).is]

theorem of_is {a b : Int} (h : small (a, b)) : marigraphlaw13_of.f a b = some (C (a, b)) := by
  unfold marigraphlaw13_of.f
  rw [fofi_eq h.1, fofi_eq h.2]
  rfl

/-- Points' values, each turned by its quarter, together; the error. -/
def ofL (day : Int) : List S33 → Int × Int → (Int × Int) × Int
  | [], s => (s, 0)
  | p :: l, s => if p.f1 < -1099511627776 ∨ p.f1 > 1099511627776 then ((0, 0), 1) else ofL day l (s.1 + (rot (qd p.f0 day) p.f1 0).1, s.2 + (rot (qd p.f0 day) p.f1 0).2)

theorem rd33 (l : List S33) (i : Nat) (h : i < l.length) : rd_T33 l (i : Int) = l[i] := by
  unfold rd_T33; rw [Int.toNat_natCast]; exact getD_lt l i _ h

theorem rot_le {m a : Int} {B : Nat} (h : a.natAbs ≤ B) : (rot m a 0).1.natAbs ≤ B ∧ (rot m a 0).2.natAbs ≤ B := by
  unfold rot
  split <;> (try split) <;> (try split) <;> simp <;> omega

theorem of_loop {day : Int} (hd : okDay day) (l : List S33) (hl : l.length ≤ 1024) (d : Nat) : ∀ (i : Nat) (s : Int × Int), l.length - i = d → i ≤ l.length → s.1.natAbs ≤ 1099511627776 * i → s.2.natAbs ≤ 1099511627776 * i →
    Ev (fun k => turn_Of.l0 k day (C s) l (l.length : Int) (i : Int)) (C (ofL day (l.drop i) s).1, (ofL day (l.drop i) s).2) := by
  induction d with
  | zero =>
    intro i s h1 h2 h3 h4
    have hi : i = l.length := by omega
    subst hi
    refine ev_succ (fun k => by rw [turn_Of.l0]) ?_
    refine ev_neg (by omega) ?_
    have hs : small s := ⟨by omega, by omega⟩
    refine ev_const (a := C s) ?_ ?_
    · exact plain_is (isP_word hs.1).is (isP_word hs.2).is hs
    · simp only [List.drop_length, ofL]
      exact Ev.now _
  | succ d ih =>
    intro i s h1 h2 h3 h4
    have hlt : i < l.length := by omega
    have hs : small s := ⟨by omega, by omega⟩
    have hdr : l.drop i = l[i] :: l.drop (i + 1) := List.drop_eq_getElem_cons hlt
    have hwr : wrap64 ((i : Int) + 1) = ((i + 1 : Nat) : Int) := by rw [w64 (by omega) (by omega)]; omega
    rw [hdr]
    refine ev_succ (fun k => by rw [turn_Of.l0]) ?_
    refine ev_pos (by omega) (ev_pos (by omega) (ev_pos (by omega) ?_))
    rw [rd33 l i hlt]
    have hj : ∀ b : Bool, b = decide (l[i].f1 < -1099511627776 ∨ l[i].f1 > 1099511627776) → Ev (fun k => turn_Of.j1 k day (C s) l (l.length : Int) (i : Int) b l[i].f0 l[i].f1) (C (ofL day (l[i] :: l.drop (i + 1)) s).1, (ofL day (l[i] :: l.drop (i + 1)) s).2) := by
      intro b hb
      by_cases hbad : l[i].f1 < -1099511627776 ∨ l[i].f1 > 1099511627776
      · rw [decide_eq_true hbad] at hb
        subst hb
        refine ev_succ (fun k => by rw [turn_Of.j1]) ?_
        refine ev_pos rfl ?_
        rw [ofL, if_pos hbad]
        exact Ev.now _
      · rw [decide_eq_false hbad] at hb
        subst hb
        refine ev_succ (fun k => by rw [turn_Of.j1]) ?_
        refine ev_neg (by simp) ?_
        rw [ofL, if_neg hbad]
        have hv : small (l[i].f1, 0) := ⟨by simp; omega, by simp⟩
        refine ev_const (quarter_ok hd) (ev_const (a := C (rot (qd l[i].f0 day) l[i].f1 0)) ?_ ?_)
        · have hq := @qd_range l[i].f0 day hd
          have := by_is (p := (l[i].f1, 0)) (q := qd l[i].f0 day) hv
          rw [Int.emod_eq_of_lt hq.1 hq.2] at this
          rw [← this]
          congr 1
          show (⟨_, _⟩ : CB) = ⟨_, _⟩
          rw [fofi_eq hv.1]
          rfl
        · have hr := rot_le (m := qd l[i].f0 day) (a := l[i].f1) (B := 1099511627776) (by omega)
          generalize rot (qd l[i].f0 day) l[i].f1 0 = r at *
          have hrs : small r := ⟨by omega, by omega⟩
          have f1 := fadd_is (isP_word hs.1).is (isP_word hrs.1) (by omega)
          have f2 := fadd_is (isP_word hs.2).is (isP_word hrs.2) (by omega)
          refine ev_pos f1.1 (ev_pos f2.1 ?_)
          rw [hwr, show (⟨fadd (C s).re (C r).re, fadd (C s).im (C r).im⟩ : CB) = C (s.1 + r.1, s.2 + r.2) by
            show (⟨fadd (wordI s.1) (wordI r.1), fadd (wordI s.2) (wordI r.2)⟩ : CB) = _
            rw [f1.2, f2.2]; rfl]
          exact ih (i + 1) _ (by omega) (by omega) (by simp; omega) (by simp; omega)
    by_cases hb : l[i].f1 < -1099511627776
    · exact ev_pos hb (hj true (by simp [hb]))
    · exact ev_neg hb (hj _ (by simp [hb]))

theorem of_ev {day : Int} (hd : okDay day) (l : List S33) (hl : l.length ≤ 1024) : Ev (fun k => turn_Of.f k l day) (C (ofL day l (0, 0)).1, (ofL day l (0, 0)).2) := by
  unfold turn_Of.f
  refine ev_neg (by omega) (ev_const (quarter_ok hd) (ev_pos rfl ?_))
  exact of_loop hd l hl _ 0 (0, 0) rfl (Nat.zero_le _) (by simp) (by simp)

theorem shown_ev : Ev (fun k => marigraphlaw13_shown.f k) true := Ev.of (fun k => marigraphlaw13_shown.mono k) (k := 30) (by decide +kernel)
end Go.Proofs.Ytjkpdjadbeidnaa.Pure
