/- BlockPuts as a plain statement: whether chunks make a block, and a block as bytes, are the document's. -/
import Derived.Test.YthkpnnbjcendcaaXStBlockPutsQc
import Derived.Test.YthkpnnbjcendcaaPbcQc
import Derived.Test.YthkpnnbjcendcaaRbpQc
set_option linter.unusedVariables false
namespace Go.Proofs.Ythkpnnbjcendcaa.Pure
open Go.RowKit Go.Proofs.Ythkpnnbjcendcaa.X Go.Proofs.Ythkpnnbjcendcaa.Pl Go.Proofs.YthkpnnbjcendcaaW.PrintWords Go.Proofs.YthkpnnbjcendcaaW.PrintLast Go.Proofs.YthkpnnbjcendcaaW.PrintMore

theorem bput_len {l : List S109} : (bputR l).1.length ≤ 5000000 ∧ Byt (bputR l).1 := by
  unfold bputR
  by_cases h : rightC l = true
  · rw [if_pos h]
    have h1 := bodyC_len h
    have h2 := (varint_len64 (n := (bodyC l).length) (by omega)).2
    refine ⟨?_, fun x hx => ?_⟩
    · show (sealL (bodyC l)).length ≤ _
      unfold sealL footL
      rw [List.length_append, List.length_append]
      simp
      omega
    · have hx : x ∈ sealL (bodyC l) := hx
      unfold sealL at hx
      rcases List.mem_append.1 hx with h | h
      · rcases List.mem_append.1 h with h | h
        · exact varint_byt _ x h
        · exact bodyC_byt _ x h
      · exact footL_byt _ x h
  · rw [if_neg h]
    exact ⟨Nat.zero_le _, fun x hx => by cases hx⟩
theorem BlockPuts : marigraphlaw09_BlockPuts.Pure := by
  intro l0 h0 hw
  refine Ev.rounds ?_
  unfold marigraphlaw09_BlockPuts.f
  obtain ⟨n, hf, hn, hp, ht⟩ := few_ev l0 (by omega) (fun c hc => by have := (hw c hc).2.1; omega)
  have hfit : ∀ c ∈ l0.take n, fitP c.f1 := fun c hc z hz => by
    have := (hw c (List.mem_of_mem_take hc)).2.2 z hz
    exact ⟨wf64 this.1, wf64 this.2⟩
  refine ev_bind hf ?_
  generalize l0.take n = x at *
  have hE : ∀ c ∈ x, c.f1.length < 1000000000 := fun c hc => by have := hp c hc; omega
  have hfc : fitsC x = true := by
    unfold fitsC
    rw [Bool.and_eq_true, List.all_eq_true]
    exact ⟨decide_eq_true (by omega), fun c hc => decide_eq_true (hE c hc)⟩
  have e1 : block_Put.f x = some (bputR x) := if_pos ⟨hfc, List.all_eq_true.2 fun c hc => (fitB_iff _).2 (hfit c hc)⟩
  have e2 : marigraphref09_Put.f x = some (bputR x) := if_pos hfc
  have e3 : marigraphref09_Right.f x = some (rightC x) := if_pos ⟨by omega, List.all_eq_true.2 fun c hc => decide_eq_true (hE c hc)⟩
  obtain ⟨hl, hb⟩ := bput_len (l := x)
  obtain ⟨r, i1, i2⟩ := ids_ev (b := (bputR x).1) (by omega) hb
  refine ev_const e1 (ev_const e2 (ev_bind shown9_ev (ev_pos rfl (ev_bind (bright_ev x (by omega) hE) (ev_const e3 (ev_pos (by simp) (ev_pos rfl (ev_pos rfl ?_))))))))
  refine ev_bind i1 (ev_bind i2 (ev_eq (Ev.now _) (by simp)))
end Go.Proofs.Ythkpnnbjcendcaa.Pure

