/- BlockTurned: for every input the law returns true: the row, out of its plain statement and the printed walk. -/
import Derived.Test.YthkpnnbjcendcaaRows
import Derived.Test.YthkpnnbjcendcaaQf12
import Derived.WalkKit
import Derived.ProofKit
import Derived.OpenShut
import Derived.ShutString
import Derived.ChangeOld
import Derived.Below
import Derived.SizedLaws
namespace Go.Proofs.Ythkpnnbjcendcaa.blockTurned
open Go.ChangeShapes Go.WideShapes Go.ChangeAt Go.RowKit Go.Proofs.Ythkpnnbjcendcaa.Opn Go.Proofs.Ythkpnnbjcendcaa.X Go.Proofs.YthkpnnbjcendcaaW.PrintWords
open Go.ChangeMaps (open_string shut_string)
set_option linter.unusedVariables false
theorem own : ownKnob Try.prog.godebug = none := by kernel_rfl
theorem laidOut : laidOutB Try.prog = true := by kernel_rfl
set_option maxRecDepth 100000 in
theorem lifted (os : Os) (started : os.Started) (H : Type) (enc : TypeId × Value → H) :
    ReturnsInHanded {} Try.checked os 19 .any (Rows.blockTurnedSpec.pre6 enc Try.prog Try.f19 Rows.blockTurnedRow.domain false) (Rows.blockTurnedSpec.post enc Try.prog Try.f19 false true false false) := by
  refine returnsInHanded_of_change_sized (C := Try.checked) own started (by kernel_rfl) Try.func19
    (ChangeSpec.witness6 (enc := enc) (C := Try.checked) false ⟨#[], #[.slice none 0 0, .int .u16 0, .int .u8 0, .slice none 0 0], []⟩ 8 (by kernel_rfl) (by kernel_rfl) (by kernel_rfl) (by kernel_rfl)) ?_
  intro W base args ds gs before hval0 hW hcnd hsz0 _
  have hsz : (DataW.weightsEach Try.prog (Try.f19.params.toList ++ Rows.blockTurnedSpec.plain.varTypes Try.prog) (ds ++ gs)).all (· ≤ reachBytes) = true := hsz0
  have hval : ∀ (j : Nat) t v, Try.f19.params[j]? = some t → args[j]? = some v → Value.okWide Try.prog W .any base t v := hval0
  have hW' := hW
  obtain ⟨p, q, hA0, hV, rfl, hfz, hnd⟩ := hW
  have hA : DataW.TrodAll enc Try.prog W 0 (fun _ => true) true Try.f19.params.toList args.toList ds p := hA0
  rw [Try.params19] at hA hval hsz
  obtain ⟨v0, vs0, d0, ds0, p0, q0, hargs, rfl, rfl, h0, r0⟩ := trodAll_cons hA
  obtain ⟨v1, vs1, d1, ds1, p1, q1, rfl, rfl, rfl, h1, r1⟩ := trodAll_cons r0
  obtain ⟨v2, vs2, d2, ds2, p2, q2, rfl, rfl, rfl, h2, r2⟩ := trodAll_cons r1
  obtain ⟨v3, vs3, d3, ds3, p3, q3, rfl, rfl, rfl, h3, r3⟩ := trodAll_cons r2
  obtain ⟨rfl, rfl, rfl⟩ := trodAll_nil r3
  obtain rfl : args = #[v0, v1, v2, v3] := by cases args; simp_all
  obtain ⟨rfl, rfl⟩ := trodVars_none hV
  obtain ⟨a0, len0, cap0, rfl⟩ := okWide_slice Try.underlying66 (hval 0 66 v0 rfl rfl)
  have k0 := h0
  have lt0 : ∀ x ∈ p0, x.block < W.heap.size := by obtain ⟨m, hm⟩ := k0; exact DataW.trod_lt m _ _ _ hm
  obtain ⟨y0, q0, W0⟩ := opens_arg (opens_slice (B := 32) Try.underlying66 (opens_iso (fun x : S109 => (x.f0, x.f1)) (fun y => ⟨y.1, y.2⟩) (fun _ => rfl) (opens_struct Try.underlying109 (opensF_cons (opens_int Try.underlying3) rfl (by kernel_rfl) (opensF_last (opens_slice (B := 16) Try.underlying44 (opens_iso (fun x : S52 => (x.f0, x.f1)) (fun y => ⟨y.1, y.2⟩) (fun _ => rfl) (opens_struct Try.underlying52 (opensF_cons (opens_int Try.underlying3) rfl (by kernel_rfl) (opensF_last (opens_int Try.underlying3) rfl (by kernel_rfl)) rfl) (by kernel_rfl))) (by kernel_rfl) (by kernel_rfl)) rfl (by kernel_rfl)) rfl) (by kernel_rfl))) (by kernel_rfl) (by kernel_rfl)) hsz (j := 0) (t := 66) rfl rfl h0
  obtain ⟨A0, c0, e0, hc0, hC0⟩ := q0
  obtain ⟨rfl, rfl, rfl⟩ : a0 = A0 ∧ len0 = y0.length ∧ cap0 = c0 := by simpa [Value.cells] using e0
  obtain ⟨y1, rfl, rfl, rfl, w1⟩ := open_int Try.underlying49 (hval 1 49 v1 rfl rfl) h1
  obtain ⟨y2, rfl, rfl, rfl, w2⟩ := open_int Try.underlying5 (hval 2 5 v2 rfl rfl) h2
  obtain ⟨a3, len3, cap3, rfl⟩ := okWide_slice Try.underlying24 (hval 3 24 v3 rfl rfl)
  have k3 := h3
  have lt3 : ∀ x ∈ p3, x.block < W.heap.size := by obtain ⟨m, hm⟩ := k3; exact DataW.trod_lt m _ _ _ hm
  obtain ⟨y3, q3, W3⟩ := opens_arg (opens_slice (B := 1) Try.underlying24 (opens_int Try.underlying5) (by kernel_rfl) (by kernel_rfl)) hsz (j := 3) (t := 24) rfl rfl h3
  obtain ⟨A3, c3, e3, hc3, hC3⟩ := q3
  obtain ⟨rfl, rfl, rfl⟩ : a3 = A3 ∧ len3 = y3.length ∧ cap3 = c3 := by simpa [Value.cells] using e3
  clear hA0 hval0 hsz0 hsz
  obtain ⟨k, h⟩ := Pure.BlockTurned y0 y1 y2 y3 W0.1 W0.2 w1 w2 W3.1 W3.2
  refine (Ythkpnnbjcendcaa.X.marigraphlaw09_BlockTurned.calls k a0 cap0 y0 y1 y2 a3 cap3 y3 true W hC0 hc0 hC3 hc3 h).mono fun e W' ⟨he, bel⟩ => ?_
  subst he
  exact ⟨_, rfl, _, _, _, [], _, [], hW', trodAll_mk1 (shut_bool Try.underlying4 _), (trodAll_cons_mk (Below.trod laidOut (by kernel_rfl) (of_decide_eq_true (by kernel_rfl)) k0 bel lt0) (trodAll_cons_mk (shut_int Try.underlying49 w1) (trodAll_cons_mk (shut_int Try.underlying5 w2) (trodAll_cons_mk (Below.trod laidOut (by kernel_rfl) (of_decide_eq_true (by kernel_rfl)) k3 bel lt3) trodAll_mk0)))), rfl, bel.frame _, fun h => by cases h⟩
theorem over : Rows.blockTurnedRow.holds Try.pinned (OpenSpec.ofChange Rows.blockTurnedSpec) :=
  OpenClaim.holds_of_wide 19 Try.f19 rfl rfl rfl rfl rfl rfl rfl ⟨rfl, rfl, rfl, rfl, rfl⟩ rfl rfl rfl rfl rfl (by kernel_rfl) Try.func19 (by kernel_rfl)
    (of_decide_eq_true (by kernel_rfl)) (by unfold Func.isWrapper; first | (rw [if_pos (by decide +kernel)]; kernel_rfl) | (rw [if_neg (by decide +kernel)]; exact ⟨rfl, rfl⟩))
    (fun os started H enc _ => lifted os started H enc)
theorem proved : Rows.BlockTurnedSaid := over
#print axioms proved
end Go.Proofs.Ythkpnnbjcendcaa.blockTurned
namespace Go.Proofs.Ythkpnnbjcendcaa
/-- The row, under a short name, for the claim. -/
theorem blockTurned_holds : Rows.BlockTurnedSaid := blockTurned.proved
end Go.Proofs.Ythkpnnbjcendcaa

