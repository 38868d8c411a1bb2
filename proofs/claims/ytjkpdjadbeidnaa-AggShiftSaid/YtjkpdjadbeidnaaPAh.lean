/- What Join and Of of the package agg and of its reference come to, and the lists that are told apart. -/
import Derived.Test.YtjkpdjadbeidnaaPAg
import Derived.Test.YtjkpdjadbeidnaaX6
import Derived.Test.YtjkpdjadbeidnaaX14
import Derived.Test.YtjkpdjadbeidnaaX15
import Derived.Test.YtjkpdjadbeidnaaX16
import Derived.Test.YtjkpdjadbeidnaaX18
import Derived.Test.YtjkpdjadbeidnaaX19
namespace Go.Proofs.Ytjkpdjadbeidnaa.Pure
open Go.RowKit Go.Proofs.Ytjkpdjadbeidnaa.X Go.Proofs.Ytjkpdjadbeidnaa.Pl Go.Proofs.YtjkpdjadbeidnaaW.PrintWords Go.Proofs.YtjkpdjadbeidnaaW.PrintLast Go.Proofs.YtjkpdjadbeidnaaW.PrintMore

theorem a_shown_ev : Ev (fun k => marigraphlaw12_shown.f k) true := Ev.of (fun k => marigraphlaw12_shown.mono k) (k := 40) (by decide +kernel)
theorem a_few (l : List S33) : ∃ x : List S33, marigraphlaw12_few.f l = some x ∧ x.length ≤ 400 ∧ ∀ p ∈ x, p ∈ l := by
  have hmn := @mn_le (l.length : Int) 400
  unfold marigraphlaw12_few.f
  rw [if_pos (by rcases hmn.2.2 with e | e <;> omega), if_pos (by omega)]
  exact ⟨_, rfl, by rw [List.length_take]; omega, fun p hp => List.mem_of_mem_take hp⟩
theorem a_rd (l : List S33) (i : Nat) (h : i < l.length) : rd_T33 l (i : Int) = l[i] := by
  unfold rd_T33; rw [Int.toNat_natCast]; exact getD_lt l i _ h
theorem a_rdb (l : List S68) (i : Nat) (h : i < l.length) : rd_T68 l (i : Int) = l[i] := by
  unfold rd_T68; rw [Int.toNat_natCast]; exact getD_lt l i _ h

theorem join_is (a b : S50) : agg_Join.f a.f0 a.f1 a.f2 a.f3 a.f4 a.f5 b.f0 b.f1 b.f2 b.f3 b.f4 b.f5 = some (tup (joinS a b)) := by
  unfold agg_Join.f joinS
  by_cases h1 : b.f0 ≤ 0
  · rw [if_pos h1, if_pos h1]
  · rw [if_neg h1, if_neg h1]
    by_cases h2 : a.f0 ≤ 0
    · rw [if_pos h2, if_pos h2]
    · rw [if_neg h2, if_neg h2]
theorem one_is (p : S33) : agg_one.f p.f0 p.f1 = some (tup (oneS p)) := rfl
theorem add_is (a b : Int) : marigraphref12_add.f a b = some (wrap64 (a + b)) := by
  unfold marigraphref12_add.f
  congr 1
  simp only [IntKind.wrap, IntKind.signed, IntKind.bits]
  unfold wrap64
  simp
theorem ref_join_is (a b : S50) : marigraphref12_Join.f a.f0 a.f1 a.f2 a.f3 a.f4 a.f5 b.f0 b.f1 b.f2 b.f3 b.f4 b.f5 = some (tup (joinS a b)) := by
  unfold marigraphref12_Join.f joinS
  by_cases h1 : b.f0 ≤ 0
  · rw [if_pos h1, if_pos h1]
  · rw [if_neg h1, if_neg h1]
    by_cases h2 : a.f0 ≤ 0
    · rw [if_pos h2, if_pos h2]
    · rw [if_neg h2, if_neg h2, add_is, add_is]; rfl

theorem of_loop (l : List S33) (hl : l.length < 9223372036854775807) (d : Nat) : ∀ (i : Nat) (s : S50), l.length - i = d → i ≤ l.length →
    Ev (fun k => agg_Of.l0 k l (l.length : Int) (i : Int) s.f0 s.f1 s.f2 s.f3 s.f4 s.f5) (tup (ofFrom s (l.drop i))) := by
  induction d with
  | zero =>
    intro i s h1 h2
    have hi : i = l.length := by omega
    subst hi
    simp only [List.drop_length, ofFrom, List.foldl_nil]
    exact ev_stop fun k => by rw [agg_Of.l0, if_neg (by omega)]
  | succ d ih =>
    intro i s h1 h2
    have hlt : i < l.length := by omega
    have hwr : wrap64 ((i : Int) + 1) = ((i + 1 : Nat) : Int) := by rw [w64 (by omega) (by omega)]; omega
    have hdr : l.drop i = l[i] :: l.drop (i + 1) := List.drop_eq_getElem_cons hlt
    refine ev_succ (fun k => by rw [agg_Of.l0]) ?_
    rw [a_rd l i hlt, hwr, hdr]
    refine ev_pos (by omega) (ev_pos (by omega) (ev_pos (by omega) (ev_const (one_is _) (ev_const (join_is s (oneS l[i])) ?_))))
    exact ih (i + 1) (joinS s (oneS l[i])) (by omega) (by omega)
theorem of_ev (l : List S33) (hl : l.length < 9223372036854775807) : Ev (fun k => agg_Of.f k l) (tup (ofS l)) := by
  have := of_loop l hl _ 0 zS rfl (Nat.zero_le _)
  exact this

def wfP (l : List S33) : Prop := ∀ p ∈ l, (-9223372036854775808 ≤ p.f0 ∧ p.f0 ≤ 9223372036854775807) ∧ -9223372036854775808 ≤ p.f1 ∧ p.f1 ≤ 9223372036854775807

theorem ref_of_loop (l : List S33) (hw : wfP l) (hl : l.length < 9223372036854775807) (d : Nat) : ∀ (i : Nat) (s : S50), l.length - i = d → i ≤ l.length → Good s i →
    Ev (fun k => marigraphref12_Of.l0 k l (i : Int) s.f0 s.f1 s.f2 s.f3 s.f4 s.f5) (tup (ofFrom s (l.drop i))) := by
  induction d with
  | zero =>
    intro i s h1 h2 _
    have hi : i = l.length := by omega
    subst hi
    simp only [List.drop_length, ofFrom, List.foldl_nil]
    exact ev_stop fun k => by rw [marigraphref12_Of.l0, if_neg (by omega)]
  | succ d ih =>
    intro i s h1 h2 hg
    have hlt : i < l.length := by omega
    have hwi := (hw _ (List.getElem_mem hlt)).2
    have hwr : wrap64 ((i : Int) + 1) = ((i + 1 : Nat) : Int) := by rw [w64 (by omega) (by omega)]; omega
    have hdr : l.drop i = l[i] :: l.drop (i + 1) := List.drop_eq_getElem_cons hlt
    have hn := ih (i + 1) (joinS s (oneS l[i])) (by omega) (by omega) (good_join hg (good_one _) (by omega))
    have h0 := hg.1
    refine ev_succ (fun k => by rw [marigraphref12_Of.l0]) ?_
    rw [a_rd l i hlt, hwr, hdr]
    refine ev_pos (by omega) (ev_pos (by omega) ?_)
    by_cases hz : i = 0
    · have es : s = zS := hg.2 hz
      refine ev_pos (by omega) (ev_const (add_is _ _) ?_)
      rw [es] at hn ⊢
      rw [(join_z (good_one l[i])).2] at hn
      have e1 : wrap64 (zS.f1 + l[i].f1) = l[i].f1 := by rw [show zS.f1 = 0 from rfl, Int.zero_add]; exact w64 hwi.1 hwi.2
      have e0 : wrap64 (zS.f0 + 1) = 1 := w64 (x := 0 + 1) (by omega) (by omega)
      rw [e1, e0]
      rw [← (join_z (good_one l[i])).2] at hn
      rw [(join_z (good_one l[i])).2] at hn
      have e2 : ofFrom zS (l[i] :: l.drop (i + 1)) = ofFrom (oneS l[i]) (l.drop (i + 1)) := by
        show ofFrom (joinS zS (oneS l[i])) _ = _
        rw [(join_z (good_one l[i])).2]
      rw [e2]
      exact hn
    · refine ev_neg (by omega) (ev_const (add_is _ _) ?_)
      have ej : joinS s (oneS l[i]) = ⟨wrap64 (s.f0 + 1), wrap64 (s.f1 + l[i].f1), mn s.f2 l[i].f1, mx s.f3 l[i].f1, s.f4, l[i].f1⟩ := by
        unfold joinS oneS
        rw [if_neg (by simp), if_neg (by omega)]
      have e2 : ofFrom s (l[i] :: l.drop (i + 1)) = ofFrom (joinS s (oneS l[i])) (l.drop (i + 1)) := rfl
      rw [e2]
      rw [ej] at hn ⊢
      exact hn
theorem ref_of_ev (l : List S33) (hw : wfP l) (hl : l.length < 9223372036854775807) : Ev (fun k => marigraphref12_Of.f k l) (tup (ofS l)) := by
  have := ref_of_loop l hw hl _ 0 zS rfl (Nat.zero_le _) good_z
  exact this
theorem wfP_of {l : List S33} (h : ∀ y ∈ l, (Lit.int .i64 y.f0).wf = true ∧ (Lit.int .i64 y.f1).wf = true) : wfP l := fun p hp => ⟨wf64 (h p hp).1, wf64 (h p hp).2⟩

theorem a_same (l : List S33) (hl : l.length < 9223372036854775807) : Ev (fun k => marigraphref04_Same.f k l l) true := by
  have go : ∀ (d i : Nat), l.length - i = d → i ≤ l.length → Ev (fun k => marigraphref04_Same.l0 k l l (i : Int)) true := by
    intro d
    induction d with
    | zero =>
      intro i hd hi
      exact ev_stop fun k => by rw [marigraphref04_Same.l0, if_neg (by omega)]
    | succ d ih =>
      intro i hd hi
      refine ev_succ (fun k => by rw [marigraphref04_Same.l0]) ?_
      refine ev_pos (by omega) (ev_pos (by omega) (ev_pos (by omega) (ev_neg (by simp) ?_)))
      rw [w64 (by omega) (by omega)]
      exact ih (i + 1) (by omega) (by omega)
  unfold marigraphref04_Same.f
  exact ev_pos rfl (go _ 0 rfl (Nat.zero_le _))
end Go.Proofs.Ytjkpdjadbeidnaa.Pure
