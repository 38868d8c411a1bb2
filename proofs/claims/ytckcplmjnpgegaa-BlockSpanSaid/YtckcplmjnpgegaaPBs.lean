/- What block.Span comes to, as a plain function on lists. -/
import Derived.Test.YtckcplmjnpgegaaPBl
namespace Go.Proofs.Ytckcplmjnpgegaa.Pure
open Go.RowKit Go.Proofs.Ytckcplmjnpgegaa.X Go.Proofs.Ytckcplmjnpgegaa.Pl Go.Proofs.YtckcplmjnpgegaaW.PrintWords Go.Proofs.YtckcplmjnpgegaaW.PrintLast Go.Proofs.YtckcplmjnpgegaaW.PrintMore

/-- One point more. -/
def spanP (s : Int × Int × Bool) (p : S33) : Int × Int × Bool := if s.2.2 = true then (mn s.1 p.f0, mx s.2.1 p.f0, true) else (p.f0, p.f0, true)
def spanL (s : Int × Int × Bool) (l : List S33) : Int × Int × Bool := l.foldl spanP s

theorem span_in (L : List S27) (N : Int) (j : Int) (l : List S33) (hl : l.length < 9223372036854775807) (r : Int × Int × Bool) (d : Nat) : ∀ (i : Nat) (a b : Int) (o : Bool), l.length - i = d → i ≤ l.length →
    (Ev (fun k => block_Span.l0 k (spanL (a, b, o) (l.drop i)).1 (spanL (a, b, o) (l.drop i)).2.1 (spanL (a, b, o) (l.drop i)).2.2 L N (wrap64 (j + 1))) r) →
    Ev (fun k => block_Span.l1 k a b o L N j l (l.length : Int) (i : Int)) r := by
  induction d with
  | zero =>
    intro i a b o hd hi h
    have hi' : i = l.length := by omega
    subst hi'
    refine ev_succ (fun k => by rw [block_Span.l1]) ?_
    refine ev_neg (by omega) ?_
    simpa [spanL] using h
  | succ d ih =>
    intro i a b o hd hi h
    have hlt : i < l.length := by omega
    have hw : wrap64 ((i : Int) + 1) = ((i + 1 : Nat) : Int) := by rw [w64 (by omega) (by omega)]; omega
    have hdr : l.drop i = l[i] :: l.drop (i + 1) := List.drop_eq_getElem_cons hlt
    refine ev_succ (fun k => by rw [block_Span.l1]) ?_
    refine ev_pos (by omega) (ev_pos (by omega) (ev_pos (by omega) ?_))
    rw [rd33 l i hlt, hw]
    rw [hdr] at h
    cases o with
    | true =>
      refine ev_pos rfl (ih (i + 1) _ _ _ (by omega) (by omega) ?_)
      have e : spanL (a, b, true) (l[i] :: l.drop (i + 1)) = spanL (mn a l[i].f0, mx b l[i].f0, true) (l.drop (i + 1)) := by simp only [spanL, List.foldl_cons, spanP, if_true]
      rw [e] at h; exact h
    | false =>
      refine ev_neg (by simp) (ih (i + 1) _ _ _ (by omega) (by omega) ?_)
      have e : spanL (a, b, false) (l[i] :: l.drop (i + 1)) = spanL (l[i].f0, l[i].f0, true) (l.drop (i + 1)) := by simp only [spanL, List.foldl_cons, spanP]; rfl
      rw [e] at h; exact h

theorem span_out (L : List S27) (hL : L.length < 9223372036854775807) (hE : ∀ c ∈ L, c.f1.length < 9223372036854775807) (d : Nat) : ∀ (i : Nat) (s : Int × Int × Bool), L.length - i = d → i ≤ L.length →
    Ev (fun k => block_Span.l0 k s.1 s.2.1 s.2.2 L (L.length : Int) (i : Int)) (spanL s ((L.drop i).flatMap (·.f1))) := by
  induction d with
  | zero =>
    intro i s hd hi
    have hi' : i = L.length := by omega
    subst hi'
    refine ev_succ (fun k => by rw [block_Span.l0]) ?_
    refine ev_neg (by omega) ?_
    simp only [List.drop_length, List.flatMap_nil, spanL, List.foldl_nil]
    exact Ev.now _
  | succ d ih =>
    intro i s hd hi
    have hlt : i < L.length := by omega
    have hw : wrap64 ((i : Int) + 1) = ((i + 1 : Nat) : Int) := by rw [w64 (by omega) (by omega)]; omega
    have hdr : L.drop i = L[i] :: L.drop (i + 1) := List.drop_eq_getElem_cons hlt
    have hc : L[i].f1.length < 9223372036854775807 := hE _ (List.getElem_mem hlt)
    refine ev_succ (fun k => by rw [block_Span.l0]) ?_
    refine ev_pos (by omega) (ev_pos (by omega) (ev_pos (by omega) ?_))
    rw [rd27 L i hlt]
    have h := ih (i + 1) (spanL s L[i].f1) (by omega) (by omega)
    have e : spanL (spanL s L[i].f1) ((L.drop (i + 1)).flatMap (·.f1)) = spanL s ((L.drop i).flatMap (·.f1)) := by
      rw [hdr, List.flatMap_cons]
      simp [spanL, List.foldl_append]
    rw [e] at h
    refine span_in L (L.length : Int) (i : Int) L[i].f1 hc _ _ 0 s.1 s.2.1 s.2.2 rfl (Nat.zero_le _) ?_
    rw [List.drop_zero, hw]
    exact h

theorem span_ev (L : List S27) (hL : L.length < 9223372036854775807) (hE : ∀ c ∈ L, c.f1.length < 9223372036854775807) : Ev (fun k => block_Span.f k L) (spanL (0, 0, false) (L.flatMap (·.f1))) := by
  have := span_out L hL hE _ 0 (0, 0, false) rfl (Nat.zero_le _)
  exact this

/-- What is told of points: whether there are any, and each is within. -/
theorem spanL_within : ∀ (l : List S33) (s : Int × Int × Bool), ((spanL s l).2.2 = (s.2.2 || decide (0 < l.length))) ∧ (s.2.2 = true → (spanL s l).1 ≤ s.1 ∧ s.2.1 ≤ (spanL s l).2.1) ∧ ∀ p ∈ l, (spanL s l).1 ≤ p.f0 ∧ p.f0 ≤ (spanL s l).2.1
  | [], s => by simp [spanL]
  | p :: l, s => by
    have ih := spanL_within l (spanP s p)
    have e : spanL s (p :: l) = spanL (spanP s p) l := rfl
    have h2 : (spanP s p).2.2 = true := by unfold spanP; split <;> rfl
    have hm := @mn_le s.1 p.f0
    have hM := @mx_le s.2.1 p.f0
    rw [e]
    obtain ⟨i1, i2, i3⟩ := ih
    have i2 := i2 h2
    have hp : (spanP s p).1 ≤ p.f0 ∧ p.f0 ≤ (spanP s p).2.1 := by unfold spanP; split <;> simp <;> omega
    refine ⟨by rw [i1, h2]; simp, fun hs => ?_, fun q hq => ?_⟩
    · have : spanP s p = (mn s.1 p.f0, mx s.2.1 p.f0, true) := by unfold spanP; rw [if_pos hs]
      rw [this] at i2 ⊢
      simp at i2
      omega
    · rcases List.mem_cons.1 hq with rfl | hq
      · omega
      · exact i3 q hq
end Go.Proofs.Ytckcplmjnpgegaa.Pure
