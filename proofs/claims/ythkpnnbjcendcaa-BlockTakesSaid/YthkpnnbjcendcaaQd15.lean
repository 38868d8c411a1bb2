/- What the law leans on, part 15: Pbc, Pbv, PureBlockTakes. -/
import Derived.Test.YthkpnnbjcendcaaQd14
import Derived.Laws.BitsAllLaws
set_option linter.unusedVariables false
set_option linter.unusedSimpArgs false
section
open Go.RowKit Go.Proofs.Ythkpnnbjcendcaa.X Go.Proofs.Ythkpnnbjcendcaa.Pl Go.Proofs.YthkpnnbjcendcaaW.PrintWords Go.Proofs.YthkpnnbjcendcaaW.PrintLast Go.Proofs.YthkpnnbjcendcaaW.PrintMore
namespace Go.Proofs.Ythkpnnbjcendcaa.Pure
theorem shown9_ev : Ev (fun k => marigraphlaw09_shown.f k) true := Ev.of (fun k => marigraphlaw09_shown.mono k) (k := 30) (by decide +kernel)
theorem rdp52 (l : List S52) (i : Nat) (h : i < l.length) : rd_T52 l (i : Int) = l[i] := by
 unfold rd_T52; rw [Int.toNat_natCast]; exact getD_lt l i _ h
theorem rdc109 (l : List S109) (i : Nat) (h : i < l.length) : rd_T109 l (i : Int) = l[i] := by
 unfold rd_T109; rw [Int.toNat_natCast]; exact getD_lt l i _ h
def spanP (s : Int × Int × Bool) (p : S52) : Int × Int × Bool := if s.2.2 = true then (mn s.1 p.f0, mx s.2.1 p.f0, true) else (p.f0, p.f0, true)
def spanL (s : Int × Int × Bool) (l : List S52) : Int × Int × Bool := l.foldl spanP s
theorem span_in (L : List S109) (N : Int) (j : Int) (l : List S52) (hl : l.length < 9223372036854775807) (r : Int × Int × Bool) (d : Nat) : ∀ (i : Nat) (a b : Int) (o : Bool), l.length - i = d → i ≤ l.length →
  (Ev (fun k => block_Span.l0 k (spanL (a, b, o) (l.drop i)).1 (spanL (a, b, o) (l.drop i)).2.1 (spanL (a, b, o) (l.drop i)).2.2 L N (wrap64 (j + 1))) r) →
  Ev (fun k => block_Span.l1 k a b o L N j l (l.length : Int) (i : Int)) r := by
 induction d with
 | zero =>
  intro i a b o hd hi h
  have hi' : i = l.length := by omega
  subst hi'
  refine ev_succ (fun k => by rw [block_Span.l1]) ?_
  refine ev_neg (by omega) ?_
  simpa [spanL] using h
 | succ d ih =>
  intro i a b o hd hi h
  have hlt : i < l.length := by omega
  have hw : wrap64 ((i : Int) + 1) = ((i + 1 : Nat) : Int) := by rw [w64 (by omega) (by omega)]; omega
  have hdr : l.drop i = l[i] :: l.drop (i + 1) := List.drop_eq_getElem_cons hlt
  refine ev_succ (fun k => by rw [block_Span.l1]) ?_
  refine ev_pos (by omega) (ev_pos (by omega) (ev_pos (by omega) ?_))
  rw [rdp52 l i hlt, hw]
  rw [hdr] at h
  cases o with
  | true =>
   refine ev_pos rfl (ih (i + 1) _ _ _ (by omega) (by omega) ?_)
   have e : spanL (a, b, true) (l[i] :: l.drop (i + 1)) = spanL (mn a l[i].f0, mx b l[i].f0, true) (l.drop (i + 1)) := by simp only [spanL, List.foldl_cons, spanP, if_true]
   rw [e] at h; exact h
  | false =>
   refine ev_neg (by simp) (ih (i + 1) _ _ _ (by omega) (by omega) ?_)
   have e : spanL (a, b, false) (l[i] :: l.drop (i + 1)) = spanL (l[i].f0, l[i].f0, true) (l.drop (i + 1)) := by simp only [spanL, List.foldl_cons, spanP]; rfl
   rw [e] at h; exact h
theorem span_out (L : List S109) (hL : L.length < 9223372036854775807) (hE : ∀ c ∈ L, c.f1.length < 9223372036854775807) (d : Nat) : ∀ (i : Nat) (s : Int × Int × Bool), L.length - i = d → i ≤ L.length →
  Ev (fun k => block_Span.l0 k s.1 s.2.1 s.2.2 L (L.length : Int) (i : Int)) (spanL s ((L.drop i).flatMap (·.f1))) := by
 induction d with
 | zero =>
  intro i s hd hi
  have hi' : i = L.length := by omega
  subst hi'
  refine ev_succ (fun k => by rw [block_Span.l0]) ?_
  refine ev_neg (by omega) ?_
  simp only [List.drop_length, List.flatMap_nil, spanL, List.foldl_nil]
  exact Ev.now _
 | succ d ih =>
  intro i s hd hi
  have hlt : i < L.length := by omega
  have hw : wrap64 ((i : Int) + 1) = ((i + 1 : Nat) : Int) := by rw [w64 (by omega) (by omega)]; omega
  have hdr : L.drop i = L[i] :: L.drop (i + 1) := List.drop_eq_getElem_cons hlt
  have hc : L[i].f1.length < 9223372036854775807 := hE _ (List.getElem_mem hlt)
  refine ev_succ (fun k => by rw [block_Span.l0]) ?_
  refine ev_pos (by omega) (ev_pos (by omega) (ev_pos (by omega) ?_))
  rw [rdc109 L i hlt]
  have h := ih (i + 1) (spanL s L[i].f1) (by omega) (by omega)
  have e : spanL (spanL s L[i].f1) ((L.drop (i + 1)).flatMap (·.f1)) = spanL s ((L.drop i).flatMap (·.f1)) := by
   rw [hdr, List.flatMap_cons]
   simp [spanL, List.foldl_append]
  rw [e] at h
  refine span_in L (L.length : Int) (i : Int) L[i].f1 hc _ _ 0 s.1 s.2.1 s.2.2 rfl (Nat.zero_le _) ?_
  rw [List.drop_zero, hw]
  exact h
theorem spanP_ref (s : Int × Int × Bool) (t : S52) (L : List S109) (j : Int) (i : Int) (r : Int × Int × Bool) (h : Ev (fun k => marigraphref09_Span.l1 k L (spanP s t).1 (spanP s t).2.1 true j i) r) (x : Bool) (hx : x = (!s.2.2 || decide (t.f0 < s.1))) (i0 : Int) (hi : wrap64 (i0 + 1) = i) :
  Ev (fun k => marigraphref09_Span.j2 k L s.1 s.2.1 s.2.2 j i0 t.f0 x) r := by
 obtain ⟨a, b, o⟩ := s
 have hmn := @mn_le a t.f0
 have hmx := @mx_le b t.f0
 refine ev_succ (fun k => by rw [marigraphref09_Span.j2]) ?_
 dsimp only at hx h ⊢
 rw [hi]
 cases o
 ·have hx : x = true := by rw [hx]; rfl
  refine ev_pos hx (ev_neg (by simp) ?_)
  simpa [spanP] using h
 ·have e : spanP (a, b, true) t = (mn a t.f0, mx b t.f0, true) := by simp [spanP]
  rw [e] at h
  dsimp only at h
  by_cases h1 : t.f0 < a
  ·have hx : x = true := by rw [hx, decide_eq_true h1]; rfl
   have e1 : mn a t.f0 = t.f0 := by omega
   rw [e1] at h
   refine ev_pos hx (ev_pos rfl ?_)
   by_cases h2 : t.f0 > b
   ·have e2 : mx b t.f0 = t.f0 := by omega
    rw [e2] at h
    exact ev_pos h2 h
   ·have e2 : mx b t.f0 = b := by omega
    rw [e2] at h
    exact ev_neg h2 h
  ·have hx : x = false := by rw [hx, decide_eq_false h1]; rfl
   have e1 : mn a t.f0 = a := by omega
   rw [e1] at h
   refine ev_neg (by rw [hx]; simp) (ev_pos rfl ?_)
   by_cases h2 : t.f0 > b
   ·have e2 : mx b t.f0 = t.f0 := by omega
    rw [e2] at h
    exact ev_pos h2 h
   ·have e2 : mx b t.f0 = b := by omega
    rw [e2] at h
    exact ev_neg h2 h
theorem spanP_true (s : Int × Int × Bool) (p : S52) : (spanP s p).2.2 = true := by unfold spanP; split <;> rfl
theorem rspan_in (L : List S109) (j : Nat) (hj : j < L.length) (hl : L[j].f1.length < 9223372036854775807) (r : Int × Int × Bool) (d : Nat) : ∀ (i : Nat) (s : Int × Int × Bool), L[j].f1.length - i = d → i ≤ L[j].f1.length →
  (Ev (fun k => marigraphref09_Span.l0 k L (spanL s (L[j].f1.drop i)).1 (spanL s (L[j].f1.drop i)).2.1 (spanL s (L[j].f1.drop i)).2.2 (wrap64 ((j : Int) + 1))) r) →
  Ev (fun k => marigraphref09_Span.l1 k L s.1 s.2.1 s.2.2 (j : Int) (i : Int)) r := by
 induction d with
 | zero =>
  intro i s hd hi h
  refine ev_succ (fun k => by rw [marigraphref09_Span.l1]) (ev_pos (by omega) (ev_pos (by omega) ?_))
  rw [rdc109 L j hj]
  refine ev_neg (by omega) ?_
  rw [List.drop_eq_nil_of_le (by omega)] at h
  exact h
 | succ d ih =>
  intro i s hd hi h
  have hlt : i < L[j].f1.length := by omega
  have hw : wrap64 ((i : Int) + 1) = ((i + 1 : Nat) : Int) := by rw [w64 (by omega) (by omega)]; omega
  rw [List.drop_eq_getElem_cons hlt] at h
  refine ev_succ (fun k => by rw [marigraphref09_Span.l1]) (ev_pos (by omega) (ev_pos (by omega) ?_))
  rw [rdc109 L j hj]
  refine ev_pos (by omega) (ev_pos (by omega) ?_)
  rw [rdp52 _ i hlt]
  have h2 := ih (i + 1) (spanP s L[j].f1[i]) (by omega) (by omega) h
  rw [spanP_true] at h2
  by_cases ho : s.2.2 = true
  ·exact ev_pos ho (spanP_ref s _ L j _ r h2 _ (by rw [ho]; rfl) _ hw)
  ·have ho : s.2.2 = false := by simpa using ho
   exact ev_neg (by rw [ho]; simp) (spanP_ref s _ L j _ r h2 _ (by rw [ho]; rfl) _ hw)
theorem rspan_out (L : List S109) (hL : L.length < 9223372036854775807) (hE : ∀ c ∈ L, c.f1.length < 9223372036854775807) (d : Nat) : ∀ (i : Nat) (s : Int × Int × Bool), L.length - i = d → i ≤ L.length →
  Ev (fun k => marigraphref09_Span.l0 k L s.1 s.2.1 s.2.2 (i : Int)) (spanL s ((L.drop i).flatMap (·.f1))) := by
 induction d with
 | zero =>
  intro i s hd hi
  refine ev_succ (fun k => by rw [marigraphref09_Span.l0]) (ev_neg (by omega) ?_)
  rw [List.drop_eq_nil_of_le (by omega)]
  exact Ev.now _
 | succ d ih =>
  intro i s hd hi
  have hlt : i < L.length := by omega
  have hw : wrap64 ((i : Int) + 1) = ((i + 1 : Nat) : Int) := by rw [w64 (by omega) (by omega)]; omega
  have hdr : L.drop i = L[i] :: L.drop (i + 1) := List.drop_eq_getElem_cons hlt
  have hc : L[i].f1.length < 9223372036854775807 := hE _ (List.getElem_mem hlt)
  refine ev_succ (fun k => by rw [marigraphref09_Span.l0]) (ev_pos (by omega) ?_)
  have h := ih (i + 1) (spanL s L[i].f1) (by omega) (by omega)
  have e : spanL (spanL s L[i].f1) ((L.drop (i + 1)).flatMap (·.f1)) = spanL s ((L.drop i).flatMap (·.f1)) := by
   rw [hdr, List.flatMap_cons]
   simp [spanL, List.foldl_append]
  rw [e] at h
  exact rspan_in L i hlt hc _ _ 0 s rfl (Nat.zero_le _) (by rw [List.drop_zero, hw]; exact h)
theorem within_from (l : List S52) (fr tl : Int) (hl : l.length < 8796093022208) (d : Nat) : ∀ i : Nat, l.length - i = d → i ≤ l.length →
  Ev (fun k => marigraphref09_Within.l0 k l fr tl ((l.take i).filter (inR fr tl)) (i : Int)) (l.filter (inR fr tl)) := by
 induction d with
 | zero =>
  intro i hd hi
  refine ev_succ (fun k => by rw [marigraphref09_Within.l0]) (ev_neg (by omega) ?_)
  rw [List.take_of_length_le (by omega)]
  exact Ev.now _
 | succ d ih =>
  intro i hd hi
  have hlt : i < l.length := by omega
  have hw : wrap64 ((i : Int) + 1) = ((i + 1 : Nat) : Int) := by rw [w64 (by omega) (by omega)]; omega
  have h := ih (i + 1) (by omega) (by omega)
  rw [List.take_succ_eq_append_getElem hlt, List.filter_append] at h
  have hfl : ((l.take i).filter (inR fr tl)).length ≤ i := Nat.le_trans (List.length_filter_le _ _) (by rw [List.length_take]; omega)
  refine ev_succ (fun k => by rw [marigraphref09_Within.l0]) (ev_pos (by omega) (ev_pos (by omega) ?_))
  rw [rdp52 l i hlt, hw]
  by_cases h1 : l[i].f0 ≥ fr
  ·by_cases h2 : l[i].f0 ≤ tl
   ·have hp : inR fr tl l[i] = true := by unfold inR; rw [decide_eq_false (by omega), decide_eq_false (by omega)]; rfl
    refine ev_pos h1 (ev_pos h2 (ev_pos (by omega) ?_))
    simpa [hp] using h
   ·have hp : inR fr tl l[i] = false := by unfold inR; rw [decide_eq_true (show tl < l[i].f0 by omega)]; simp
    refine ev_pos h1 (ev_neg h2 ?_)
    simpa [hp] using h
  ·have hp : inR fr tl l[i] = false := by unfold inR; rw [decide_eq_true (show l[i].f0 < fr by omega)]; rfl
   refine ev_neg h1 ?_
   simpa [hp] using h
theorem same4_ev (l : List S52) (hl : l.length < 9223372036854775807) : Ev (fun k => marigraphref04_Same.f k l l) true := by
 have go : ∀ (d i : Nat), l.length - i = d → i ≤ l.length → Ev (fun k => marigraphref04_Same.l0 k l l (i : Int)) true := by
  intro d
  induction d with
  | zero =>
   intro i hd hi
   exact ev_stop fun k => by rw [marigraphref04_Same.l0, if_neg (by omega)]
  | succ d ih =>
   intro i hd hi
   refine ev_succ (fun k => by rw [marigraphref04_Same.l0]) ?_
   refine ev_pos (by omega) (ev_pos (by omega) (ev_pos (by omega) (ev_neg (by simp) ?_)))
   rw [w64 (by omega) (by omega)]
   exact ih (i + 1) (by omega) (by omega)
 unfold marigraphref04_Same.f
 exact ev_pos rfl (go _ 0 rfl (Nat.zero_le _))
theorem same9_ev (l : List S109) (hl : l.length < 9223372036854775807) (hE : ∀ c ∈ l, c.f1.length < 9223372036854775807) (hS : ∀ c ∈ l, Ev (fun k => marigraphref04_Same.f k c.f1 c.f1) true) : Ev (fun k => marigraphref09_Same.f k l l) true := by
 have go : ∀ (d i : Nat), l.length - i = d → i ≤ l.length → Ev (fun k => marigraphref09_Same.l0 k l l (i : Int)) true := by
  intro d
  induction d with
  | zero =>
   intro i hd hi
   exact ev_stop fun k => by rw [marigraphref09_Same.l0, if_neg (by omega)]
  | succ d ih =>
   intro i hd hi
   have hlt : i < l.length := by omega
   refine ev_succ (fun k => by rw [marigraphref09_Same.l0]) ?_
   refine ev_pos (by omega) (ev_pos (by omega) (ev_pos (by omega) (ev_pos rfl ?_)))
   rw [rdc109 l i hlt]
   refine ev_bind (hS _ (List.getElem_mem hlt)) (ev_pos rfl ?_)
   rw [w64 (by omega) (by omega)]
   exact ih (i + 1) (by omega) (by omega)
 unfold marigraphref09_Same.f
 exact ev_pos rfl (go _ 0 rfl (Nat.zero_le _))
end Go.Proofs.Ythkpnnbjcendcaa.Pure
namespace Go.Proofs.Ythkpnnbjcendcaa.Pure
theorem btake_size (b : List Int) : (btakeR b).1.length ≤ 200 ∧ (∀ c ∈ (btakeR b).1, c.f1.length ≤ 1024) ∧ fitL (btakeR b).1 := by
 rcases btake_two b with h | ⟨_, h⟩
 ·obtain ⟨h1, h2⟩ := btake_ok h
  have h3 := rightC_all (bput_right h2).1
  exact ⟨h3.2.2, fun c hc => (h3.1 c hc).n1, h1⟩
 ·rw [h]
  exact ⟨Nat.zero_le _, (fun c hc => by cases hc), (fun c hc => by cases hc)⟩
theorem take_f {b : List Int} (h : b.length < 1000000) (hb : Byt b) : block_Take.f b = some (btakeR b) := if_pos ⟨h, hb⟩
theorem rtake_f {b : List Int} (h : b.length < 1000000) (hb : Byt b) : marigraphref09_Take.f b = some (btakeR b) := if_pos ⟨h, hb⟩
theorem same_btake (b : List Int) : Ev (fun k => marigraphref09_Same.f k (btakeR b).1 (btakeR b).1) true := by
 obtain ⟨h1, h2, _⟩ := btake_size b
 exact same9_ev _ (by omega) (fun c hc => by have := h2 c hc; omega) (fun c hc => same4_ev _ (by have := h2 c hc; omega))
theorem wf_u8 {x : Int} (h : (Lit.int .u8 x).wf = true) : 0 ≤ x ∧ x ≤ 255 := by simpa [Lit.wf, IntKind.min, IntKind.max, IntKind.signed, IntKind.bits] using h
end Go.Proofs.Ythkpnnbjcendcaa.Pure
end
section
namespace Go.Proofs.Ythkpnnbjcendcaa.Pure
open Go.RowKit Go.Proofs.Ythkpnnbjcendcaa.X Go.Proofs.Ythkpnnbjcendcaa.Pl Go.Proofs.YthkpnnbjcendcaaW.PrintWords Go.Proofs.YthkpnnbjcendcaaW.PrintLast Go.Proofs.YthkpnnbjcendcaaW.PrintMore
theorem BlockTakes : marigraphlaw09_BlockTakes.Pure := by
 intro l0 h0 _ hw
 refine Ev.rounds ?_
 unfold marigraphlaw09_BlockTakes.f
 have hmn := @mn_le (l0.length : Int) 3000
 refine ev_pos (by rcases hmn.2.2 with e | e <;> omega) (ev_pos (by omega) ?_)
 generalize hq : l0.take (mn (l0.length : Int) 3000).toNat = q
 have hql : q.length ≤ 3000 := by
  rw [← hq, List.length_take]
  omega
 have hqb : Byt q := fun x hx => by
  rw [← hq] at hx
  exact wf_u8 (hw x (List.mem_of_mem_take hx))
 clear hq hmn
 refine ev_const (take_f (by omega) hqb) (ev_const (rtake_f (by omega) hqb) (ev_bind shown9_ev (ev_pos rfl (ev_bind (same_btake q) (ev_pos rfl (ev_eq (Ev.now _) (by simp)))))))
end Go.Proofs.Ythkpnnbjcendcaa.Pure
end
