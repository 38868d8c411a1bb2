/- BlockCuts as a plain statement: whatever the points and the number, the chunks are of the id 3, none is empty or too long, all but the last one are full, and joined they are the points. -/
import Derived.Test.YtckcplmjnpgegaaXStBlockCuts
import Derived.Test.YtckcplmjnpgegaaPBl
namespace Go.Proofs.Ytckcplmjnpgegaa.Pure
open Go.RowKit Go.Proofs.Ytckcplmjnpgegaa.X Go.Proofs.Ytckcplmjnpgegaa.Pl Go.Proofs.YtckcplmjnpgegaaW.PrintWords Go.Proofs.YtckcplmjnpgegaaW.PrintLast Go.Proofs.YtckcplmjnpgegaaW.PrintMore

theorem cuts_loop (a1 : Int) (x : List S33) (L : List S27) (hL : L.length < 2000) (hx : x.length < 2000)
    (hE : ∀ (i : Nat) (c : S27), L[i]? = some c → c.f0 = 3 ∧ 0 < c.f1.length ∧ (c.f1.length : Int) ≤ mx a1 1 ∧ (i + 1 < L.length → (c.f1.length : Int) = mx a1 1))
    (hj : L.flatMap (·.f1) = x) (d : Nat) :
    ∀ i : Nat, L.length - i = d → i ≤ L.length → Ev (fun k => marigraphlaw09_BlockCuts.l0 k a1 true x ((L.take i).flatMap (·.f1)) L L (L.length : Int) (i : Int)) true := by
  induction d with
  | zero =>
    intro i hd hi
    have hi' : i = L.length := by omega
    refine ev_succ (fun k => by rw [marigraphlaw09_BlockCuts.l0]) ?_
    refine ev_neg (by omega) (ev_pos rfl ?_)
    rw [hi', List.take_length, hj]
    exact ev_bind (same_refl_ev x (by omega)) (Ev.now _)
  | succ d ih =>
    intro i hd hi
    have hlt : i < L.length := by omega
    obtain ⟨h1, h2, h3, h4⟩ := hE i L[i] (List.getElem?_eq_getElem hlt)
    have t1 : (i : Int) < (L.length : Int) := by omega
    have t2 : (0 : Int) ≤ (i : Int) := by omega
    have t3 : ¬ ((L[i].f1.length : Int) = 0) := by omega
    have t4 : ¬ ((L[i].f1.length : Int) > mx a1 1) := by omega
    have hw : wrap64 ((i : Int) + 1) = ((i + 1 : Nat) : Int) := by rw [w64 (by omega) (by omega)]; omega
    have hstep : (L.take i).flatMap (·.f1) ++ L[i].f1 = (L.take (i + 1)).flatMap (·.f1) := by
      rw [List.take_succ_eq_append_getElem hlt, List.flatMap_append]; simp
    have hlen : ((L.take (i + 1)).flatMap (·.f1)).length ≤ x.length := by
      rw [← hj]
      conv => rhs; rw [← List.take_append_drop (i + 1) L, List.flatMap_append]
      simp
    have hlen2 : ((L.take i).flatMap (·.f1)).length + L[i].f1.length < 8796093022208 := by
      rw [← List.length_append, hstep]; exact Nat.lt_of_le_of_lt hlen (Nat.lt_trans hx (by decide))
    clear hlen hE
    refine ev_succ (fun k => by rw [marigraphlaw09_BlockCuts.l0]) ?_
    rw [rd27 L i hlt, hw]
    refine ev_pos t1 (ev_pos t2 (ev_pos t1 (ev_pos h1 (ev_neg t3 (ev_neg t4 ?_)))))
    by_cases hn : i + 1 < L.length
    · refine ev_pos (Int.ofNat_lt.mpr hn) (ev_pos (h4 hn) (ev_pos hlen2 ?_))
      rw [hstep]
      exact ih (i + 1) (by omega) (by omega)
    · refine ev_neg (fun h => hn (Int.ofNat_lt.mp h)) (ev_pos hlen2 ?_)
      rw [hstep]
      exact ih (i + 1) (by omega) (by omega)

theorem BlockCuts : marigraphlaw09_BlockCuts.Pure := by
  intro l0 a1 _ _ _
  refine Ev.rounds ?_
  unfold marigraphlaw09_BlockCuts.f
  refine ev_bind shown_ev ?_
  have hmn := @mn_le (l0.length : Int) 1100
  refine ev_pos (by rcases hmn.2.2 with e | e <;> omega) (ev_pos (by omega) (ev_some ?_))
  generalize hx : l0.take (mn (l0.length : Int) 1100).toNat = x
  have hxl : x.length ≤ 1100 := by
    rw [← hx, List.length_take]
    omega
  refine ev_bind (block_cut_ev 3 x a1 (by omega)) ?_
  have hm := @mx_le a1 1
  have hm0 : 0 < (mx a1 1).toNat := by omega
  have hLl := cutF_length 3 (mx a1 1).toNat hm0 x.length x (Nat.le_refl _)
  have := cuts_loop a1 x (cutF 3 (mx a1 1).toNat x.length x) (by omega) (by omega) (fun i c hc => by
    obtain ⟨h1, h2, h3, h4⟩ := cutF_each 3 (mx a1 1).toNat hm0 x.length x i c (Nat.le_refl _) hc
    exact ⟨h1, h2, by omega, fun hi => by have := h4 hi; omega⟩) (cutF_join 3 _ hm0 _ x (Nat.le_refl _)) _ 0 rfl (Nat.zero_le _)
  exact this
end Go.Proofs.Ytckcplmjnpgegaa.Pure
