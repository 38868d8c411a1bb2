/- AggParts as a plain statement: what comes of points is what is joined of their parts. -/
import Derived.Test.YtjkpdjadbeidnaaPAu
import Derived.Test.YtjkpdjadbeidnaaXStAggParts
namespace Go.Proofs.Ytjkpdjadbeidnaa.Pure
open Go.RowKit Go.Proofs.Ytjkpdjadbeidnaa.X Go.Proofs.Ytjkpdjadbeidnaa.Pl Go.Proofs.YtjkpdjadbeidnaaW.PrintWords Go.Proofs.YtjkpdjadbeidnaaW.PrintLast Go.Proofs.YtjkpdjadbeidnaaW.PrintMore

theorem mod_in (a : Int) (w : Nat) : ∃ f : Nat, a % ((w : Int) + 1) = (f : Int) ∧ f ≤ w := by
  have h1 := Int.emod_nonneg a (show (w : Int) + 1 ≠ 0 by omega)
  have h2 := Int.emod_lt_of_pos a (show (0 : Int) < (w : Int) + 1 by omega)
  generalize a % ((w : Int) + 1) = m at h1 h2 ⊢
  exact ⟨m.toNat, by omega, by omega⟩
theorem mod_code {a : Int} (h0 : 0 ≤ a) (h1 : a ≤ 65535) (w : Nat) : ∃ f : Nat, Int.tmod (wrap64 a) ((w : Int) + 1) = (f : Int) ∧ f ≤ w := by
  obtain ⟨f, hf, hw⟩ := mod_in a w
  exact ⟨f, by rw [w64 (by omega) (by omega), tmod_pos h0, hf], hw⟩
theorem w_succ (n : Nat) (h : n ≤ 400) : wrap64 ((n : Int) + 1) = (n : Int) + 1 := w64 (by omega) (by omega)
theorem w_sub (n f : Nat) (h : n ≤ 400) (hf : f ≤ n) : wrap64 ((n : Int) - (f : Int)) = ((n - f : Nat) : Int) := by rw [w64 (by omega) (by omega)]; omega
theorem w_add (n f : Nat) (h : n ≤ 400) (hf : f ≤ 400) : wrap64 ((n : Int) + (f : Int)) = ((n + f : Nat) : Int) := by rw [w64 (by omega) (by omega)]; omega
theorem parts3 (x : List S33) (p q : Nat) (hx : x.length ≤ 400) : joinS (joinS (ofS (x.take p)) (ofS ((x.take (p + q)).drop p))) (ofS (x.drop (p + q))) = ofS x ∧ joinS (ofS (x.take p)) (joinS (ofS ((x.take (p + q)).drop p)) (ofS (x.drop (p + q)))) = ofS x := by
  have h1 : (x.take p).length ≤ 400 := by rw [List.length_take]; omega
  have h2 : ((x.take (p + q)).drop p).length ≤ 400 := by rw [List.length_drop, List.length_take]; omega
  have h3 : (x.drop (p + q)).length ≤ 400 := by rw [List.length_drop]; omega
  have e1 : x.take p ++ (x.take (p + q)).drop p = x.take (p + q) := by
    have := List.take_append_drop p (x.take (p + q))
    rwa [List.take_take, Nat.min_eq_left (Nat.le_add_right p q)] at this
  have e2 : x.take (p + q) ++ x.drop (p + q) = x := List.take_append_drop _ _
  have a1 := of_append (x.take p) ((x.take (p + q)).drop p) (by omega)
  have a2 := of_append (x.take (p + q)) (x.drop (p + q)) (by rw [List.length_take]; omega)
  rw [e1] at a1
  rw [e2, a1] at a2
  refine ⟨a2.symm, ?_⟩
  rw [← join_assoc (good_of _ (by omega)) (good_of _ (by omega)) (good_of _ (by omega)) (by omega)]
  exact a2.symm

theorem AggParts : marigraphlaw12_AggParts.Pure := by
  intro l a1 a2 _ hwf h1 h2
  refine Ev.rounds ?_
  unfold marigraphlaw12_AggParts.f
  obtain ⟨x, hx, hxl, hm⟩ := a_few l
  have w1 : 0 ≤ a1 ∧ a1 ≤ 65535 := by simpa [Lit.wf, IntKind.min, IntKind.max, IntKind.signed, IntKind.bits] using h1
  have w2 : 0 ≤ a2 ∧ a2 ≤ 65535 := by simpa [Lit.wf, IntKind.min, IntKind.max, IntKind.signed, IntKind.bits] using h2
  obtain ⟨p, hp, hpx⟩ := mod_code w1.1 w1.2 x.length
  obtain ⟨q, hq, hqx⟩ := mod_code w2.1 w2.2 (x.length - p)
  have f1 := w_succ x.length hxl
  have f2 := w_sub x.length p hxl hpx
  have hs : x.length - p ≤ 400 := Nat.le_trans (Nat.sub_le _ _) hxl
  have hp4 : p ≤ 400 := Nat.le_trans hpx hxl
  have hq4 : q ≤ 400 := Nat.le_trans hqx hs
  have f3 := w_succ (x.length - p) hs
  have f4 := w_add p q hp4 hq4
  refine ev_bind a_shown_ev (ev_const hx ?_)
  simp only [f1, hp, f2, f3, hq, f4, Int.toNat_natCast]
  clear f1 f2 f3 f4 hp hq h1 h2 w1 w2 hwf hm hx
  have g1 := of_ev (x.take p) (by rw [List.length_take]; omega)
  have g2 := of_ev ((x.take (p + q)).drop p) (by rw [List.length_drop, List.length_take]; omega)
  have g3 := of_ev (x.drop (p + q)) (by rw [List.length_drop]; omega)
  have g4 := of_ev x (by omega)
  obtain ⟨e1, e2⟩ := parts3 x p q hxl
  generalize ofS (x.take p) = A at g1 e1 e2
  generalize ofS ((x.take (p + q)).drop p) = B at g2 e1 e2
  generalize ofS (x.drop (p + q)) = C at g3 e1 e2
  generalize ofS x = D at g4 e1 e2
  refine ev_neg (by omega) (ev_neg (by omega) (ev_pos (by omega) (ev_pos (by omega) (ev_bind g1 (ev_pos (by omega) (ev_pos (by omega) (ev_bind g2 (ev_pos (by omega) (ev_bind g3 (ev_pos (by first | trivial | rfl) (ev_const (join_is A B) (ev_const (join_is (joinS A B) C) (ev_bind g4 ?_)))))))))))))
  rw [e1]
  refine ev_pos (by simp) (ev_const (join_is B C) (ev_const (join_is A (joinS B C)) (ev_bind g4 (ev_eq (Ev.now _) ?_))))
  rw [e2]
  simp
end Go.Proofs.Ytjkpdjadbeidnaa.Pure
