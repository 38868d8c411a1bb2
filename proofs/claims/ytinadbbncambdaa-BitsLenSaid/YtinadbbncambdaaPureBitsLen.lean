/- BitsLen as a plain statement: there are as many bits as were put, and as few bytes as have them. -/
import Derived.Test.YtinadbbncambdaaXStBitsLen
import Derived.Test.YtinadbbncambdaaPBp
namespace Go.Proofs.Ytinadbbncambdaa.Pure
open Go.RowKit Go.Proofs.Ytinadbbncambdaa.X Go.Proofs.Ytinadbbncambdaa.Pl Go.Proofs.YtinadbbncambdaaW.PrintWords Go.Proofs.YtinadbbncambdaaW.PrintLast Go.Proofs.YtinadbbncambdaaW.PrintMore

theorem rd34_mem {l : List S34} {i : Nat} (h : i < l.length) : rd_T34 l (i : Int) ∈ l := by
  unfold rd_T34
  rw [Int.toNat_natCast, getD_lt _ _ _ h]
  exact List.getElem_mem h
theorem wf34 {x : S34} (h : (Lit.int .u64 x.f0).wf = true ∧ (Lit.int .i64 x.f1).wf = true) : (0 ≤ x.f0 ∧ x.f0 < 2 ^ 64) ∧ (-9223372036854775808 ≤ x.f1 ∧ x.f1 ≤ 9223372036854775807) := by
  refine ⟨?_, wf64 h.2⟩
  have := h.1
  simp [Lit.wf, IntKind.min, IntKind.max, IntKind.signed, IntKind.bits] at this
  omega
theorem clone_f (b : List Int) (h : b.length < 140737488355328) : slices_Clone_byte_byte.f b = some b := by
  unfold slices_Clone_byte_byte.f
  simp [h]
theorem len_loop (l : List S34) (hl : l.length < 4611686018427387904) (hw : ∀ y ∈ l, (Lit.int .u64 y.f0).wf = true ∧ (Lit.int .i64 y.f1).wf = true) (d : Nat) : ∀ (i m : Nat) (b : List Int), l.length - i = d → Hold b m →
    Ev (fun k => marigraphlaw02_BitsLen.l0 k l b (m : Int) (m : Int) (i : Int)) true := by
  induction d with
  | zero =>
    intro i m b hd h
    have hm := h.max
    have hb := h.len
    refine ev_succ (fun k => by rw [marigraphlaw02_BitsLen.l0]) (ev_neg (by omega) (ev_pos rfl (ev_const (clone_f b (by omega)) ⟨0, fun _ _ => ?_⟩)))
    rw [w64 (x := (m : Int) + 7) (by omega) (by omega), tdiv_pos (by omega), w64 (by omega) (by omega), hb]
    simp
  | succ d ih =>
    intro i m b hd h
    have hm := h.max
    have hi : wrap64 ((i : Int) + 1) = ((i + 1 : Nat) : Int) := by rw [w64 (by omega) (by omega)]; simp
    refine ev_succ (fun k => by rw [marigraphlaw02_BitsLen.l0]) (ev_pos (by omega) (ev_pos (by omega) ?_))
    rw [hi]
    by_cases h100 : (i : Int) < 100
    · refine ev_pos h100 ?_
      obtain ⟨hn, hwd⟩ := wf34 (hw _ (rd34_mem (l := l) (i := i) (by omega)))
      obtain ⟨b', m', hev, hh, hno, hyes⟩ := put_ev h _ _ hn hwd
      refine ev_bind hev ?_
      dsimp only
      by_cases h0 : putC m (rd_T34 l (i : Int)).f0 (rd_T34 l (i : Int)).f1 = 0
      · refine ev_pos h0 ?_
        have := (putC_0 h0)
        obtain ⟨rfl, _⟩ := hyes h0
        rw [w64 (x := (m : Int) + _) (by omega) (by omega), show (m : Int) + (rd_T34 l (i : Int)).f1 = ((m + (rd_T34 l (i : Int)).f1.toNat : Nat) : Int) by omega]
        exact ih (i + 1) _ _ (by omega) hh
      · refine ev_neg h0 ?_
        obtain ⟨rfl, rfl⟩ := hno h0
        exact ih (i + 1) _ _ (by omega) hh
    · refine ev_neg h100 ?_
      exact ih (i + 1) _ _ (by omega) h
theorem BitsLen : marigraphlaw02_BitsLen.Pure := by
  intro l hl hw
  refine Ev.rounds ?_
  unfold marigraphlaw02_BitsLen.f
  exact len_loop l (by omega) hw l.length 0 0 [] (by omega) hold_nil
end Go.Proofs.Ytinadbbncambdaa.Pure
