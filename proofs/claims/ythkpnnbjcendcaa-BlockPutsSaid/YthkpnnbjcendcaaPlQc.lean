/- Small words for the plain statements: enough rounds ('Ev') through a test, a bind; sums that do not wrap; an element of a list. -/
import Derived.Test.YthkpnnbjcendcaaWMoreQc
namespace Go.Proofs.Ythkpnnbjcendcaa.Pl
open Go.RowKit Go.Proofs.YthkpnnbjcendcaaW.PrintWords Go.Proofs.YthkpnnbjcendcaaW.PrintLast Go.Proofs.YthkpnnbjcendcaaW.PrintMore

theorem ev_pos {α : Type} {c : Prop} [Decidable c] {f g : Nat → Option α} {r : α} (h : c) (k : Ev f r) : Ev (fun n => if c then f n else g n) r := by
  simp only [if_pos h]; exact k
theorem ev_neg {α : Type} {c : Prop} [Decidable c] {f g : Nat → Option α} {r : α} (h : ¬ c) (k : Ev g r) : Ev (fun n => if c then f n else g n) r := by
  simp only [if_neg h]; exact k
theorem ev_some {α β : Type} {a : α} {f : Nat → α → Option β} {r : β} (k : Ev (fun n => f n a) r) : Ev (fun n => (some a).bind (f n)) r := k
theorem ev_bind {α β : Type} {g : Nat → Option α} {f : Nat → α → Option β} {a : α} {r : β} (h : Ev g a) (k : Ev (fun n => f n a) r) : Ev (fun n => (g n).bind (f n)) r := Ev.bind h k
theorem ev_const {α β : Type} {g : Option α} {f : Nat → α → Option β} {a : α} {r : β} (h : g = some a) (k : Ev (fun n => f n a) r) : Ev (fun n => g.bind (f n)) r := by rw [h]; exact k
theorem ev_eq {α : Type} {f : Nat → Option α} {r r' : α} (h : Ev f r) (e : r = r') : Ev f r' := e ▸ h
/-- A loop's function at one round more. -/
theorem ev_succ {α : Type} {g f : Nat → Option α} {r : α} (h : ∀ k, g (k + 1) = f k) (k : Ev f r) : Ev g r := Ev.step h k
/-- A loop's function that answers at once. -/
theorem ev_stop {α : Type} {g : Nat → Option α} {r : α} (h : ∀ k, g (k + 1) = some r) : Ev g r :=
  ⟨1, fun k hk => by obtain ⟨k, rfl⟩ : ∃ m, k = m + 1 := ⟨k - 1, by omega⟩; exact h k⟩
theorem w64 {x : Int} (h0 : -9223372036854775808 ≤ x) (h1 : x ≤ 9223372036854775807) : wrap64 x = x := by unfold wrap64; omega
theorem wf64 {x : Int} (h : (Lit.int .i64 x).wf = true) : -9223372036854775808 ≤ x ∧ x ≤ 9223372036854775807 := by
  simpa [Lit.wf, IntKind.min, IntKind.max, IntKind.signed, IntKind.bits] using h
theorem mx_le {a b : Int} : a ≤ mx a b ∧ b ≤ mx a b ∧ (mx a b = a ∨ mx a b = b) := by unfold mx; split <;> omega
theorem mn_le {a b : Int} : mn a b ≤ a ∧ mn a b ≤ b ∧ (mn a b = a ∨ mn a b = b) := by unfold mn; split <;> omega
theorem getD_lt {α : Type} (l : List α) (i : Nat) (d : α) (h : i < l.length) : l.getD i d = l[i] := by
  rw [List.getD_eq_getElem?_getD, List.getElem?_eq_getElem h]; rfl
theorem tmod_pos {a b : Int} (h : 0 ≤ a) : Int.tmod a b = a % b := Int.tmod_eq_emod_of_nonneg h
theorem tmod_neg {a b : Int} (h : a < 0) : Int.tmod a b = -((-a) % b) := by
  have : Int.tmod (-a) b = (-a) % b := Int.tmod_eq_emod_of_nonneg (by omega)
  rw [← this, Int.neg_tmod, Int.neg_neg]
theorem tdiv_pos {a b : Int} (h : 0 ≤ a) : Int.tdiv a b = a / b := Int.tdiv_eq_ediv_of_nonneg h
theorem tmod_range {a b : Int} (h : 0 < b) : -b < Int.tmod a b ∧ Int.tmod a b < b := by
  rcases Int.lt_or_le a 0 with ha | ha
  · rw [tmod_neg ha]
    have := Int.emod_nonneg (-a) (by omega : b ≠ 0)
    have := Int.emod_lt_of_pos (-a) h
    omega
  · rw [tmod_pos ha]
    have := Int.emod_nonneg a (by omega : b ≠ 0)
    have := Int.emod_lt_of_pos a h
    omega
/-- The remainder that Go gives, made one that is not below 0. -/
theorem tmod_fix {a b : Int} (h : 0 < b) : Int.tmod (Int.tmod a b + b) b = a % b := by
  have hr := @tmod_range a b h
  rw [tmod_pos (by omega)]
  rcases Int.lt_or_le a 0 with ha | ha
  · rw [tmod_neg ha]
    have e : a % b = (-((-a) % b) + b) % b := by
      have h1 : a = -((-a) % b) + b * (-((-a) / b)) := by
        have := Int.emod_add_mul_ediv (-a) b
        have h2 : b * (-((-a) / b)) = -(b * ((-a) / b)) := Int.mul_neg ..
        omega
      have h3 : (-((-a) % b) + b * (-((-a) / b))) % b = (-((-a) % b)) % b := Int.add_mul_emod_self_left ..
      have h4 : (-((-a) % b) + b) % b = (-((-a) % b)) % b := Int.add_emod_right ..
      rw [h4, ← h3, ← h1]
    exact e.symm
  · rw [tmod_pos ha, Int.add_emod_right, Int.emod_emod]
end Go.Proofs.Ythkpnnbjcendcaa.Pl

