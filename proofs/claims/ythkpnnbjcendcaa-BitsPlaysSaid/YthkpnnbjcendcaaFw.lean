/- The laws' few: the head of a list. -/
import Derived.Test.YthkpnnbjcendcaaBc
set_option linter.unusedVariables false
set_option linter.unusedSimpArgs false
open Go.RowKit Go.Proofs.Ythkpnnbjcendcaa.X Go.Proofs.Ythkpnnbjcendcaa.Pl Go.Proofs.Ythkpnnbjcendcaa.Sp Go.Proofs.Ythkpnnbjcendcaa.Sc Go.Proofs.Ythkpnnbjcendcaa.Pure Go.Proofs.YthkpnnbjcendcaaW.PrintWords Go.Proofs.YthkpnnbjcendcaaW.PrintLast Go.Proofs.YthkpnnbjcendcaaW.PrintMore
namespace Go.Proofs.Ythkpnnbjcendcaa.Sc
theorem few02_calls (A0 : Option Addr) (c0 : Nat) (l0 : List S34) (w : World) (hc0 : l0.length ≤ c0) :
    Calls Try.prog 21 #[.slice A0 l0.length c0] w fun e w' => e = .returned (.slice A0 (l0.take 4200).length c0) ∧ Below w.heap.size w w' := by
  have HB := Aside0.mk (Below.refl w.heap.size w)
  obtain ⟨m, hm⟩ : ∃ m : Nat, m = (l0.take 4200).length := ⟨_, rfl⟩
  have hm2 : m = min 4200 l0.length := by rw [hm, List.length_take]
  have hmn : (if 4200 < (l0.length : Int) then 4200 else (l0.length : Int)) = (m : Int) := by split <;> omega
  have c3b0 := eq_true (show 0 ≤ (m : Int) by omega)
  have c3b1 : decide (0 ≤ (m : Int)) = true := decide_eq_true (by omega)
  have q5 : (m : Int) ≤ (l0.length : Int) := by omega
  have c4b1 : decide ((m : Int) ≤ (l0.length : Int)) = true := decide_eq_true q5
  obtain ⟨i05, hi05, _, hsz5, _⟩ := info_parts info34
  have hcut5 := cut_to (P := Try.prog) 22 34 .i64 Try.underlying22 hi05 A0 l0.length c0 (m : Int) (by omega) q5 hc0
  rw [← hm]
  replace q5 := eq_true q5
  clear hm hm2 hi05 hsz5
  go_enter Try.func21, Try.ntmps21
  go_wp2
  go_ret
  exact ⟨by simp, HB.out⟩
end Go.Proofs.Ythkpnnbjcendcaa.Sc
