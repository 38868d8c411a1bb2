/- BlockTells as a plain statement: the times that chunks have, a series' points, and points in chunks, are the document's. -/
import Derived.Test.YthkpnnbjcendcaaXStBlockTellsQa
import Derived.Test.YthkpnnbjcendcaaPbcQa
set_option linter.unusedVariables false
namespace Go.Proofs.Ythkpnnbjcendcaa.Pure
open Go.RowKit Go.Proofs.Ythkpnnbjcendcaa.X Go.Proofs.Ythkpnnbjcendcaa.Pl Go.Proofs.YthkpnnbjcendcaaW.PrintWords Go.Proofs.YthkpnnbjcendcaaW.PrintLast Go.Proofs.YthkpnnbjcendcaaW.PrintMore

theorem rangeL_len (l : List S109) (id fr tl : Int) (n : Nat) (hE : ∀ c ∈ l, c.f1.length ≤ n) : (rangeL l id fr tl).length ≤ n := by
  unfold rangeL
  rcases h : l.findIdx? (fun x => x.f0 == id) with _ | k
  · rw [h]; exact Nat.zero_le _
  · obtain ⟨hk, -⟩ := List.findIdx?_eq_some_iff_getElem.1 h
    rw [h]
    show ((rd_T109 l (k : Int)).f1.filter (inR fr tl)).length ≤ n
    rw [rdc109 l k hk]
    exact Nat.le_trans (List.length_filter_le _ _) (hE _ (List.getElem_mem hk))
theorem BlockTells : marigraphlaw09_BlockTells.Pure := by
  intro l0 a1 a2 a3 l4 a5 h0 hw _ _ _ h4 _ _
  refine Ev.rounds ?_
  unfold marigraphlaw09_BlockTells.f
  obtain ⟨n, hf, hn, hp, ht⟩ := few_ev l0 (by omega) (fun c hc => by have := (hw c hc).2.1; omega)
  refine ev_bind hf ?_
  generalize l0.take n = x at *
  have hmn := @mn_le (l4.length : Int) 1100
  refine ev_pos (by rcases hmn.2.2 with e | e <;> omega) (ev_pos (by omega) (ev_some ?_))
  generalize hq : l4.take (mn (l4.length : Int) 1100).toNat = q
  have hql : q.length ≤ 1100 := by
    rw [← hq, List.length_take]
    omega
  clear hq hmn
  have hE : ∀ c ∈ x, c.f1.length < 9223372036854775807 := fun c hc => by have := hp c hc; omega
  have hr : block_Range.f x a1 a2 a3 = some (rangeL x a1 a2 a3) := if_pos ⟨by omega, fun c hc => by have := hp c hc; omega⟩
  have hrl := rangeL_len x a1 a2 a3 1100 hp
  refine ev_bind (span_ev x (by omega) hE) (ev_bind (rspan_ev x (by omega) hE) (ev_bind shown9_ev (ev_pos rfl (ev_pos rfl (ev_pos rfl (ev_pos (by simp) ?_))))))
  refine ev_const hr (ev_bind (rrange_ev x a1 a2 a3 (by omega) (fun c hc => by have := hp c hc; omega)) (ev_bind (same4_ev _ (by omega)) (ev_pos rfl ?_)))
  have hm := @mx_le a5 1
  have hcl := cutF_length a1 (mx a5 1).toNat (by omega) q.length q (Nat.le_refl _)
  have hcj := cutF_join a1 (mx a5 1).toNat (by omega) q.length q (Nat.le_refl _)
  have hce : ∀ c ∈ cutL a1 (mx a5 1).toNat q, c.f1.length ≤ 1100 := fun c hc => by
    have : c.f1.length ≤ ((cutF a1 (mx a5 1).toNat q.length q).flatMap (·.f1)).length := by
      obtain ⟨s, t, e⟩ := List.append_of_mem hc
      have e : cutF a1 (mx a5 1).toNat q.length q = s ++ c :: t := e
      rw [e, List.flatMap_append, List.flatMap_cons]
      simp; omega
    rw [hcj] at this
    omega
  refine ev_bind (block_cut_ev a1 q a5 (by omega)) (ev_bind (rcut_ev a1 q a5 (by omega)) (ev_bind (same9_ev (cutL a1 (mx a5 1).toNat q) (by show (cutF a1 (mx a5 1).toNat q.length q).length < _; omega) (fun c hc => by have := hce c hc; omega) (fun c hc => same4_ev _ (by have := hce c hc; omega))) (Ev.now _)))
end Go.Proofs.Ythkpnnbjcendcaa.Pure

