/- BitsParts as a plain statement: bits are told in parts as at once. -/
import Derived.Test.YtinadbbncambdaaX12
import Derived.Test.YtinadbbncambdaaPBi
namespace Go.Proofs.Ytinadbbncambdaa.Pure
open Go.RowKit Go.Proofs.Ytinadbbncambdaa.X Go.Proofs.Ytinadbbncambdaa.Pl Go.Proofs.YtinadbbncambdaaW.PrintWords Go.Proofs.YtinadbbncambdaaW.PrintLast Go.Proofs.YtinadbbncambdaaW.PrintMore

theorem w_add (p f : Nat) (h : p ≤ 900) (h2 : f ≤ 64) : wrap64 ((p : Int) + (f : Int)) = (p : Int) + (f : Int) := w64 (by omega) (by omega)
theorem w_sub (w f : Nat) (h : f ≤ w) (h2 : w ≤ 64) : wrap64 ((w : Int) - (f : Int)) = (w : Int) - (f : Int) := w64 (by omega) (by omega)
theorem mod_in (a : Int) (w : Nat) : ∃ f : Nat, a % ((w : Int) + 1) = (f : Int) ∧ f ≤ w := by
  have h1 := Int.emod_nonneg a (show (w : Int) + 1 ≠ 0 by omega)
  have h2 := Int.emod_lt_of_pos a (show (0 : Int) < (w : Int) + 1 by omega)
  generalize a % ((w : Int) + 1) = m at h1 h2 ⊢
  exact ⟨m.toNat, by omega, by omega⟩
theorem atR_nat (x : List Int) (p w : Nat) (hw : w ≤ 64) : atR x (p : Int) (w : Int) = if 8 * x.length < p + w then (0, 2) else ((val x p w : Int), 0) := by
  unfold atR
  rw [if_neg (by omega)]
  by_cases h : 8 * x.length < p + w
  · rw [if_pos (by omega), if_pos h]
  · rw [if_neg (by omega), if_neg h]; simp
theorem parts_eq (x : List Int) (p w f : Nat) (hfw : f ≤ w) (hw6 : w ≤ 64) : ((val x p w : Int) == Go.bits .or .u64 (shl .u64 (val x p f : Int) ((w - f : Nat) : Int)) (val x (p + f) (w - f) : Int)) = true := by
  have hv := val_lt x p f
  have hv2 := val_lt x (p + f) (w - f)
  have hlt : val x p f * 2 ^ (w - f) < 2 ^ 64 := by
    have h1 : val x p f * 2 ^ (w - f) < 2 ^ f * 2 ^ (w - f) := (Nat.mul_lt_mul_right (Nat.two_pow_pos _)).2 hv
    rw [← Nat.pow_add, show f + (w - f) = w by omega] at h1
    exact Nat.lt_of_lt_of_le h1 (Nat.pow_le_pow_right (by decide) hw6)
  have ha := val_add x p f (w - f)
  rw [show f + (w - f) = w by omega] at ha
  rw [or_is hlt hv2 (by omega), ← ha]
  simp
theorem BitsParts : marigraphlaw02_BitsParts.Pure := by
  intro l a1 a2 a3 _ _ hl h1 h2 h3
  refine Ev.rounds ?_
  have w1 : 0 ≤ a1 ∧ a1 ≤ 65535 := by simpa [Lit.wf, IntKind.min, IntKind.max, IntKind.signed, IntKind.bits] using h1
  have w2 : 0 ≤ a2 ∧ a2 ≤ 255 := by simpa [Lit.wf, IntKind.min, IntKind.max, IntKind.signed, IntKind.bits] using h2
  have w3 : 0 ≤ a3 ∧ a3 ≤ 255 := by simpa [Lit.wf, IntKind.min, IntKind.max, IntKind.signed, IntKind.bits] using h3
  have hmn := @mn_le (l.length : Int) 100
  have hx : Byt (l.take (mn (l.length : Int) 100).toNat) := fun y hy => byt_wf hl y (List.mem_of_mem_take hy)
  have hxl : (l.take (mn (l.length : Int) 100).toNat).length ≤ 100 := by rw [List.length_take]; omega
  unfold marigraphlaw02_BitsParts.f
  generalize l.take (mn (l.length : Int) 100).toNat = x at hx hxl ⊢
  have e1 : wrap64 (Int.tmod a1 901) = a1 % 901 := by rw [tmod_pos w1.1, w64 (by omega) (by omega)]
  have e2 : wrap64 (Int.tmod a2 65) = a2 % 65 := by rw [tmod_pos w2.1, w64 (by omega) (by omega)]
  obtain ⟨p, hp, hp9⟩ : ∃ p : Nat, a1 % 901 = (p : Int) ∧ p ≤ 900 := ⟨(a1 % 901).toNat, by omega, by omega⟩
  obtain ⟨w, hw, hw6⟩ : ∃ w : Nat, a2 % 65 = (w : Int) ∧ w ≤ 64 := ⟨(a2 % 65).toNat, by omega, by omega⟩
  have e3 : wrap64 ((w : Int) + 1) = (w : Int) + 1 := w64 (by omega) (by omega)
  obtain ⟨f, hf, hfw⟩ := mod_in a3 w
  have e4 : Int.tmod (wrap64 a3) ((w : Int) + 1) = (f : Int) := by rw [w64 (by omega) (by omega), tmod_pos w3.1, hf]
  rw [e1, e2, hp, hw, e3, e4, w_add p f hp9 (Nat.le_trans hfw hw6), w_sub w f hfw hw6]
  clear e1 e2 e3 e4 hp hw hf h1 h2 h3 w1 w2 w3 hl
  have g1 := at_ev hx (by omega) (p : Int) (w : Int) (by omega)
  have g2 := at_ev hx (by omega) (p : Int) (f : Int) (by omega)
  have g3 := at_ev hx (by omega) ((p : Int) + (f : Int)) ((w : Int) - (f : Int)) (by omega)
  rw [show (p : Int) + (f : Int) = ((p + f : Nat) : Int) by omega, show (w : Int) - (f : Int) = ((w - f : Nat) : Int) by omega] at g3 ⊢
  rw [atR_nat x p w hw6] at g1
  rw [atR_nat x p f (by omega)] at g2
  rw [atR_nat x (p + f) (w - f) (by omega)] at g3
  refine ev_const (a := true) rfl (ev_pos (by omega) (ev_pos (by omega) (ev_neg (by omega) (ev_bind g1 (ev_bind g2 (ev_bind g3 ?_))))))
  clear g1 g2 g3
  by_cases hin : 8 * x.length < p + w
  · have hin3 : 8 * x.length < p + f + (w - f) := by omega
    rw [if_pos hin, if_pos hin3]
    refine ev_neg (by decide) (ev_pos rfl (ev_pos rfl ?_))
    by_cases h2 : 8 * x.length < p + f
    · rw [if_pos h2]; exact ev_neg (by decide) (Ev.now _)
    · rw [if_neg h2]; exact ev_pos rfl (Ev.now _)
  · have hin2 : ¬ 8 * x.length < p + f := by omega
    have hin3 : ¬ 8 * x.length < p + f + (w - f) := by omega
    rw [if_neg hin, if_neg hin2, if_neg hin3]
    refine ev_pos rfl (ev_pos rfl (ev_pos rfl (ev_pos rfl (ev_pos (Int.natCast_nonneg _) (ev_eq (Ev.now _) ?_)))))
    exact parts_eq x p w f hfw hw6
end Go.Proofs.Ytinadbbncambdaa.Pure
