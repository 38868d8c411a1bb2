/- The reference's turned number, whole numbers back out of floats, and sums of points that are all in range. -/
import Derived.Test.YtjkpdjadbeidnaaPTu
import Derived.Test.YtjkpdjadbeidnaaT13
import Derived.Test.YtjkpdjadbeidnaaT14
import Derived.Test.YtjkpdjadbeidnaaT15
namespace Go.Proofs.Ytjkpdjadbeidnaa.Pure
open Go.RowKit Go.Proofs.Ytjkpdjadbeidnaa.T Go.Proofs.Ytjkpdjadbeidnaa.Pl Go.Proofs.Ytjkpdjadbeidnaa.Flo Go.Proofs.YtjkpdjadbeidnaaW.PrintWords Go.Proofs.YtjkpdjadbeidnaaW.PrintLast Go.Proofs.YtjkpdjadbeidnaaW.PrintMore

theorem ref_by_steps (m : Int) (hm0 : 0 ≤ m) (hm : m < 4) {B : Nat} (hB : B ≤ 4503599627370496) (d : Nat) : ∀ (i a b : Int), (m - i).toNat = d → 0 ≤ i → i ≤ m → a.natAbs ≤ B → b.natAbs ≤ B →
    Ev (fun k => marigraphref13_By.l0 k a b m i) (rot (m - i) a b) := by
  induction d with
  | zero =>
    intro i a b h1 h2 h3 _ _
    have e : m - i = 0 := by omega
    rw [e]
    exact ev_stop fun k => by rw [marigraphref13_By.l0, if_neg (by omega)]; simp [rot]
  | succ d ih =>
    intro i a b h1 h2 h3 ha hb
    refine ev_succ (fun k => by rw [marigraphref13_By.l0]) ?_
    refine ev_pos (by omega) ?_
    rw [w64 (x := -b) (by omega) (by omega), w64 (x := i + 1) (by omega) (by omega)]
    have h := ih (i + 1) (-b) a (by omega) (by omega) (by omega) (by omega) ha
    have e : rot (m - (i + 1)) (-b) a = rot (m - i) a b := by
      have : m - i = 1 ∨ m - i = 2 ∨ m - i = 3 := by omega
      rcases this with e | e | e <;> rw [show m - (i + 1) = (m - i) - 1 by omega, e] <;> simp [rot]
    rw [e] at h
    exact h

theorem ref_by_ev (q a b : Int) (ha : a.natAbs ≤ 4503599627370496) (hb : b.natAbs ≤ 4503599627370496) : Ev (fun k => marigraphref13_By.f k a b q) (rot (q % 4) a b) := by
  have hr := @tmod_range q 4 (by omega)
  have hi := @tmod_if q 4 (by omega)
  have hq : 0 ≤ q % 4 ∧ q % 4 < 4 := by omega
  have go : Ev (fun k => marigraphref13_By.j0 k a b (q % 4)) (rot (q % 4) a b) := by
    refine ev_succ (fun k => by rw [marigraphref13_By.j0]) ?_
    have := ref_by_steps (q % 4) hq.1 hq.2 (B := 4503599627370496) (Nat.le_refl _) _ 0 a b rfl (by omega) hq.1 ha hb
    rw [Int.sub_zero] at this
    exact this
  unfold marigraphref13_By.f
  by_cases hn : Int.tmod q 4 < 0
  · rw [if_pos hn] at hi
    refine ev_pos hn ?_
    rw [w64 (by omega) (by omega), hi]
    exact go
  · rw [if_neg hn] at hi
    refine ev_neg hn ?_
    rw [hi]
    exact go

theorem whole_is {a : Int} (h : a.natAbs ≤ 4503599627370496) : turn_whole.f (wordI a) = some (a, true) := by
  have ha := (isP_word (n := a) (by omega)).is
  have hlo : (14064741636278059008 : Nat) = wordI (-4503599627370496) := by decide +kernel
  have hhi : (4841369599423283200 : Nat) = wordI 4503599627370496 := by decide +kernel
  have il := (isP_word (n := -4503599627370496) (by decide)).is
  have ih := (isP_word (n := 4503599627370496) (by decide)).is
  have ht := ftoi_is ha (by omega)
  unfold turn_whole.f
  rw [hlo, hhi, fge_is ha il, fle_is ha ih, if_pos (by simp; omega), if_pos (by simp; omega), if_pos ht.1, ht.2, fofi_eq (by omega)]
  have : fne (wordI a) (wordI a) = false := by
    have := feq_is ha ha
    unfold feq at this
    unfold fne
    simp only [bne, this]
    simp
  rw [this, if_neg (by simp)]

theorem Whole_is {p : Int × Int} (h1 : p.1.natAbs ≤ 4503599627370496) (h2 : p.2.natAbs ≤ 4503599627370496) : turn_Whole.f (C p) = some (p.1, p.2) := by
  unfold turn_Whole.f
  rw [show (C p).re = wordI p.1 from rfl, show (C p).im = wordI p.2 from rfl, whole_is h1, whole_is h2]
  rfl

/-- A sum of points that are all in range. -/
def sumT (day : Int) : List S33 → Int × Int
  | [] => (0, 0)
  | p :: l => ((rot (qd p.f0 day) p.f1 0).1 + (sumT day l).1, (rot (qd p.f0 day) p.f1 0).2 + (sumT day l).2)

theorem ofL_sum (day : Int) : ∀ (l : List S33) (s : Int × Int), (∀ p ∈ l, -1099511627776 ≤ p.f1 ∧ p.f1 ≤ 1099511627776) → ofL day l s = ((s.1 + (sumT day l).1, s.2 + (sumT day l).2), 0)
  | [], s, _ => by simp [ofL, sumT]
  | p :: l, s, h => by
    have hp := h p List.mem_cons_self
    rw [ofL, if_neg (by omega), ofL_sum day l _ (fun q hq => h q (List.mem_cons_of_mem _ hq))]
    simp only [sumT, Prod.mk.injEq, and_true]
    omega

theorem sumT_append (day : Int) : ∀ (l m : List S33), sumT day (l ++ m) = ((sumT day l).1 + (sumT day m).1, (sumT day l).2 + (sumT day m).2)
  | [], m => by simp [sumT]
  | p :: l, m => by
    have := sumT_append day l m
    rw [List.cons_append]
    simp only [sumT, this, Prod.mk.injEq]
    omega

theorem sumT_small (day : Int) : ∀ (l : List S33), (∀ p ∈ l, -1099511627776 ≤ p.f1 ∧ p.f1 ≤ 1099511627776) → (sumT day l).1.natAbs ≤ 1099511627776 * l.length ∧ (sumT day l).2.natAbs ≤ 1099511627776 * l.length
  | [], _ => by simp [sumT]
  | p :: l, h => by
    have hp := h p List.mem_cons_self
    have ih := sumT_small day l (fun q hq => h q (List.mem_cons_of_mem _ hq))
    have hr := rot_le (m := qd p.f0 day) (a := p.f1) (B := 1099511627776) (by omega)
    simp only [sumT, List.length_cons]
    omega
theorem of_sum {day : Int} (hd : okDay day) (l : List S33) (hl : l.length ≤ 1024) (hv : ∀ p ∈ l, -1099511627776 ≤ p.f1 ∧ p.f1 ≤ 1099511627776) : Ev (fun k => turn_Of.f k l day) (C (sumT day l), 0) := by
  have h := of_ev hd l hl
  rw [ofL_sum day l (0, 0) hv] at h
  simpa using h
theorem sumT_ok {day : Int} {l : List S33} (hl : l.length ≤ 1024) (hv : ∀ p ∈ l, -1099511627776 ≤ p.f1 ∧ p.f1 ≤ 1099511627776) : small (sumT day l) := by
  have := sumT_small day l hv
  exact ⟨by omega, by omega⟩
end Go.Proofs.Ytjkpdjadbeidnaa.Pure
