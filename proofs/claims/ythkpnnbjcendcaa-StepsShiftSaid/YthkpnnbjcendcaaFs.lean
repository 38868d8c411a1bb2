/- The few of the laws of layer 4: the head of a list. -/
import Derived.Test.YthkpnnbjcendcaaBc
import Derived.Test.YthkpnnbjcendcaaPs
set_option linter.unusedVariables false
set_option linter.unusedSimpArgs false
open Go.RowKit Go.Proofs.Ythkpnnbjcendcaa.X Go.Proofs.Ythkpnnbjcendcaa.Pl Go.Proofs.Ythkpnnbjcendcaa.Sp Go.Proofs.Ythkpnnbjcendcaa.Sc Go.Proofs.Ythkpnnbjcendcaa.Pure Go.Proofs.YthkpnnbjcendcaaW.PrintWords Go.Proofs.YthkpnnbjcendcaaW.PrintLast Go.Proofs.YthkpnnbjcendcaaW.PrintMore
namespace Go.Proofs.Ythkpnnbjcendcaa.Sc
theorem few04_calls (A0 : Option Addr) (c0 : Nat) (l0 : List S52) (w : World) (hc0 : l0.length ≤ c0) :
    Calls Try.prog 30 #[.slice A0 l0.length c0] w fun e w' => e = .returned (.slice A0 (l0.take 1100).length c0) ∧ Below w.heap.size w w' := by
  have HB := Aside0.mk (Below.refl w.heap.size w)
  obtain ⟨m, hm⟩ : ∃ m : Nat, m = (l0.take 1100).length := ⟨_, rfl⟩
  have hm2 : m = min 1100 l0.length := by rw [hm, List.length_take]
  have hmn : (if 1100 < (l0.length : Int) then 1100 else (l0.length : Int)) = (m : Int) := by split <;> omega
  have c3b0 := eq_true (show 0 ≤ (m : Int) by omega)
  have c3b1 : decide (0 ≤ (m : Int)) = true := decide_eq_true (by omega)
  have q5 : (m : Int) ≤ (l0.length : Int) := by omega
  have c4b1 : decide ((m : Int) ≤ (l0.length : Int)) = true := decide_eq_true q5
  obtain ⟨i05, hi05, _, hsz5, _⟩ := info_parts info52
  have hcut5 := cut_to (P := Try.prog) 44 52 .i64 Try.underlying44 hi05 A0 l0.length c0 (m : Int) (by omega) q5 hc0
  rw [← hm]
  replace q5 := eq_true q5
  clear hm hm2 hi05 hsz5
  go_enter Try.func30, Try.ntmps30
  go_wp2
  go_ret
  exact ⟨by simp, HB.out⟩
theorem some04_calls (A0 : Option Addr) (c0 : Nat) (l0 : List Int) (w : World) (hc0 : l0.length ≤ c0) :
    Calls Try.prog 36 #[.slice A0 l0.length c0] w fun e w' => e = .returned (.slice A0 (l0.take 300).length c0) ∧ Below w.heap.size w w' := by
  have HB := Aside0.mk (Below.refl w.heap.size w)
  obtain ⟨m, hm⟩ : ∃ m : Nat, m = (l0.take 300).length := ⟨_, rfl⟩
  have hm2 : m = min 300 l0.length := by rw [hm, List.length_take]
  have hmn : (if 300 < (l0.length : Int) then 300 else (l0.length : Int)) = (m : Int) := by split <;> omega
  have c3b0 := eq_true (show 0 ≤ (m : Int) by omega)
  have c3b1 : decide (0 ≤ (m : Int)) = true := decide_eq_true (by omega)
  have q5 : (m : Int) ≤ (l0.length : Int) := by omega
  have c4b1 : decide ((m : Int) ≤ (l0.length : Int)) = true := decide_eq_true q5
  obtain ⟨i05, hi05, _, hsz5, _⟩ := info_parts info3
  have hcut5 := cut_to (P := Try.prog) 54 3 .i64 Try.underlying54 hi05 A0 l0.length c0 (m : Int) (by omega) q5 hc0
  rw [← hm]
  replace q5 := eq_true q5
  clear hm hm2 hi05 hsz5
  go_enter Try.func36, Try.ntmps36
  go_wp2
  go_ret
  exact ⟨by simp, HB.out⟩
end Go.Proofs.Ythkpnnbjcendcaa.Sc
