/- Out of PAg, PAh: what PureAggParts needs of them. -/
import Derived.Test.YtjkpdjadbeidnaaPl
import Derived.Test.YtjkpdjadbeidnaaX0
import Derived.Test.YtjkpdjadbeidnaaX15
import Derived.Test.YtjkpdjadbeidnaaX16
import Derived.Test.YtjkpdjadbeidnaaX4
import Derived.Test.YtjkpdjadbeidnaaX5
import Derived.Test.YtjkpdjadbeidnaaX6
namespace Go.Proofs.Ytjkpdjadbeidnaa.Pure
open Go.RowKit Go.Proofs.Ytjkpdjadbeidnaa.X Go.Proofs.Ytjkpdjadbeidnaa.Pl Go.Proofs.YtjkpdjadbeidnaaW.PrintWords Go.Proofs.YtjkpdjadbeidnaaW.PrintLast Go.Proofs.YtjkpdjadbeidnaaW.PrintMore
def joinS (a b : S50) : S50 := if b.f0 ≤ 0 then a else if a.f0 ≤ 0 then b else ⟨wrap64 (a.f0 + b.f0), wrap64 (a.f1 + b.f1), mn a.f2 b.f2, mx a.f3 b.f3, a.f4, b.f5⟩
def oneS (p : S33) : S50 := ⟨1, p.f1, p.f1, p.f1, p.f1, p.f1⟩
def zS : S50 := ⟨0, 0, 0, 0, 0, 0⟩
def ofFrom (s : S50) (l : List S33) : S50 := l.foldl (fun s p => joinS s (oneS p)) s
def ofS (l : List S33) : S50 := ofFrom zS l
abbrev tup (s : S50) : Int × Int × Int × Int × Int × Int := (s.f0, s.f1, s.f2, s.f3, s.f4, s.f5)
/-- What came of n points. -/
def Good (s : S50) (n : Nat) : Prop := s.f0 = (n : Int) ∧ (n = 0 → s = zS)
theorem good_z : Good zS 0 := ⟨rfl, fun _ => rfl⟩
theorem good_one (p : S33) : Good (oneS p) 1 := ⟨rfl, fun h => by omega⟩
theorem good_join {a b : S50} {n m : Nat} (ha : Good a n) (hb : Good b m) (h : n + m < 9223372036854775807) : Good (joinS a b) (n + m) := by
  unfold joinS
  have h1 := ha.1
  have h2 := hb.1
  by_cases hm : m = 0
  · rw [if_pos (by omega)]
    subst hm
    simpa using ha
  · rw [if_neg (by omega)]
    by_cases hn : n = 0
    · rw [if_pos (by omega)]
      subst hn
      simpa using hb
    · rw [if_neg (by omega)]
      refine ⟨?_, fun h => by omega⟩
      show wrap64 (a.f0 + b.f0) = _
      rw [h1, h2, w64 (by omega) (by omega)]
      omega
theorem join_z {a : S50} {n : Nat} (h : Good a n) : joinS a zS = a ∧ joinS zS a = a := by
  constructor
  · unfold joinS; rw [if_pos (by simp [zS])]
  · unfold joinS
    by_cases hn : n = 0
    · rw [h.2 hn]; rfl
    · rw [if_neg (by have := h.1; omega), if_pos (by simp [zS])]
theorem mn_assoc (a b c : Int) : mn (mn a b) c = mn a (mn b c) := by
  unfold mn; split <;> split <;> (try split) <;> (try split) <;> omega
theorem mx_assoc (a b c : Int) : mx (mx a b) c = mx a (mx b c) := by
  unfold mx; split <;> split <;> (try split) <;> (try split) <;> omega
theorem wrap_assoc (a b c : Int) : wrap64 (wrap64 (a + b) + c) = wrap64 (a + wrap64 (b + c)) := by
  unfold wrap64; omega
theorem join_assoc {a b c : S50} {n m k : Nat} (ha : Good a n) (hb : Good b m) (hc : Good c k) (h : n + m + k < 9223372036854775807) : joinS (joinS a b) c = joinS a (joinS b c) := by
  have g1 := good_join ha hb (by omega)
  have g2 := good_join hb hc (by omega)
  by_cases hk : k = 0
  · rw [hc.2 hk, (join_z g1).1, (join_z hb).1]
  · by_cases hm : m = 0
    · rw [hb.2 hm, (join_z ha).1, (join_z hc).2]
    · by_cases hn : n = 0
      · rw [ha.2 hn, (join_z hb).2, (join_z g2).2]
      · have a1 := ha.1
        have b1 := hb.1
        have c1 := hc.1
        have e1 : joinS a b = ⟨wrap64 (a.f0 + b.f0), wrap64 (a.f1 + b.f1), mn a.f2 b.f2, mx a.f3 b.f3, a.f4, b.f5⟩ := by
          unfold joinS; rw [if_neg (by omega), if_neg (by omega)]
        have e2 : joinS b c = ⟨wrap64 (b.f0 + c.f0), wrap64 (b.f1 + c.f1), mn b.f2 c.f2, mx b.f3 c.f3, b.f4, c.f5⟩ := by
          unfold joinS; rw [if_neg (by omega), if_neg (by omega)]
        have w1 : wrap64 (a.f0 + b.f0) = a.f0 + b.f0 := w64 (by omega) (by omega)
        have w2 : wrap64 (b.f0 + c.f0) = b.f0 + c.f0 := w64 (by omega) (by omega)
        rw [e1, e2]
        unfold joinS
        simp only [w1, w2]
        rw [if_neg (by omega), if_neg (by omega), if_neg (by omega), if_neg (by omega), mn_assoc, mx_assoc, wrap_assoc, Int.add_assoc]
theorem good_from : ∀ (l : List S33) (s : S50) (n : Nat), Good s n → n + l.length < 9223372036854775807 → Good (ofFrom s l) (n + l.length)
  | [], s, n, h, _ => by simpa [ofFrom] using h
  | p :: l, s, n, h, hl => by
    simp only [List.length_cons] at hl
    have := good_from l (joinS s (oneS p)) (n + 1) (good_join h (good_one p) (by omega)) (by omega)
    simp only [List.length_cons]
    rw [show n + (l.length + 1) = n + 1 + l.length by omega]
    exact this
theorem good_of (l : List S33) (h : l.length < 9223372036854775807) : Good (ofS l) l.length := by
  have := good_from l zS 0 good_z (by omega)
  simpa [ofS] using this
theorem from_join : ∀ (l : List S33) (s : S50) (n : Nat), Good s n → n + l.length < 9223372036854775807 → ofFrom s l = joinS s (ofS l)
  | [], s, n, h, _ => by simp [ofFrom, ofS]; exact (join_z h).1.symm
  | p :: l, s, n, h, hl => by
    simp only [List.length_cons] at hl
    have g1 := good_join h (good_one p) (by omega : n + 1 < 9223372036854775807)
    show ofFrom (joinS s (oneS p)) l = joinS s (ofFrom (joinS zS (oneS p)) l)
    rw [from_join l _ (n + 1) g1 (by omega), (join_z (good_one p)).2, from_join l _ 1 (good_one p) (by omega)]
    exact join_assoc h (good_one p) (good_of l (by omega)) (by omega)
theorem of_append (l m : List S33) (h : l.length + m.length < 9223372036854775807) : ofS (l ++ m) = joinS (ofS l) (ofS m) := by
  have e : ofS (l ++ m) = ofFrom (ofS l) m := by simp [ofS, ofFrom, List.foldl_append]
  rw [e]
  exact from_join m (ofS l) l.length (good_of l (by omega)) (by omega)
section
variable {α : Type}
end
theorem a_shown_ev : Ev (fun k => marigraphlaw12_shown.f k) true := Ev.of (fun k => marigraphlaw12_shown.mono k) (k := 40) (by decide +kernel)
theorem a_few (l : List S33) : ∃ x : List S33, marigraphlaw12_few.f l = some x ∧ x.length ≤ 400 ∧ ∀ p ∈ x, p ∈ l := by
  have hmn := @mn_le (l.length : Int) 400
  unfold marigraphlaw12_few.f
  rw [if_pos (by rcases hmn.2.2 with e | e <;> omega), if_pos (by omega)]
  exact ⟨_, rfl, by rw [List.length_take]; omega, fun p hp => List.mem_of_mem_take hp⟩
theorem a_rd (l : List S33) (i : Nat) (h : i < l.length) : rd_T33 l (i : Int) = l[i] := by
  unfold rd_T33; rw [Int.toNat_natCast]; exact getD_lt l i _ h
theorem join_is (a b : S50) : agg_Join.f a.f0 a.f1 a.f2 a.f3 a.f4 a.f5 b.f0 b.f1 b.f2 b.f3 b.f4 b.f5 = some (tup (joinS a b)) := by
  unfold agg_Join.f joinS
  by_cases h1 : b.f0 ≤ 0
  · rw [if_pos h1, if_pos h1]
  · rw [if_neg h1, if_neg h1]
    by_cases h2 : a.f0 ≤ 0
    · rw [if_pos h2, if_pos h2]
    · rw [if_neg h2, if_neg h2]
theorem one_is (p : S33) : agg_one.f p.f0 p.f1 = some (tup (oneS p)) := rfl
theorem of_loop (l : List S33) (hl : l.length < 9223372036854775807) (d : Nat) : ∀ (i : Nat) (s : S50), l.length - i = d → i ≤ l.length →
    Ev (fun k => agg_Of.l0 k l (l.length : Int) (i : Int) s.f0 s.f1 s.f2 s.f3 s.f4 s.f5) (tup (ofFrom s (l.drop i))) := by
  induction d with
  | zero =>
    intro i s h1 h2
    have hi : i = l.length := by omega
    subst hi
    simp only [List.drop_length, ofFrom, List.foldl_nil]
    exact ev_stop fun k => by rw [agg_Of.l0, if_neg (by omega)]
  | succ d ih =>
    intro i s h1 h2
    have hlt : i < l.length := by omega
    have hwr : wrap64 ((i : Int) + 1) = ((i + 1 : Nat) : Int) := by rw [w64 (by omega) (by omega)]; omega
    have hdr : l.drop i = l[i] :: l.drop (i + 1) := List.drop_eq_getElem_cons hlt
    refine ev_succ (fun k => by rw [agg_Of.l0]) ?_
    rw [a_rd l i hlt, hwr, hdr]
    refine ev_pos (by omega) (ev_pos (by omega) (ev_pos (by omega) (ev_const (one_is _) (ev_const (join_is s (oneS l[i])) ?_))))
    exact ih (i + 1) (joinS s (oneS l[i])) (by omega) (by omega)
theorem of_ev (l : List S33) (hl : l.length < 9223372036854775807) : Ev (fun k => agg_Of.f k l) (tup (ofS l)) := by
  have := of_loop l hl _ 0 zS rfl (Nat.zero_le _)
  exact this
end Go.Proofs.Ytjkpdjadbeidnaa.Pure
