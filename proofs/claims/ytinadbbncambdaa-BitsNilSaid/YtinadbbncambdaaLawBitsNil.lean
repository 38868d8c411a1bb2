/- BitsNil: for every input the law returns true: the row, out of its plain statement and the printed walk. -/
import Derived.Test.YtinadbbncambdaaRows
import Derived.Test.YtinadbbncambdaaOpn
import Derived.Test.YtinadbbncambdaaBnl
import Derived.Test.YtinadbbncambdaaPureBitsNil
import Derived.WalkKit
import Derived.ProofKit
import Derived.OpenShut
import Derived.ShutString
import Derived.ChangeOld
import Derived.Below
import Derived.SizedLaws
namespace Go.Proofs.Ytinadbbncambdaa.bitsNil
open Go.ChangeShapes Go.WideShapes Go.ChangeAt Go.RowKit Go.Proofs.Ytinadbbncambdaa.Opn Go.Proofs.Ytinadbbncambdaa.X Go.Proofs.YtinadbbncambdaaW.PrintWords
open Go.ChangeMaps (open_string shut_string)
set_option linter.unusedVariables false
theorem own : ownKnob Try.prog.godebug = none := by kernel_rfl
theorem laidOut : laidOutB Try.prog = true := by kernel_rfl
set_option maxRecDepth 100000 in
theorem lifted (os : Os) (started : os.Started) (H : Type) (enc : TypeId × Value → H) :
    ReturnsInHanded {} Try.checked os 6 .any (Rows.bitsNilSpec.pre6 enc Try.prog Try.f6 Rows.bitsNilRow.domain false) (Rows.bitsNilSpec.post enc Try.prog Try.f6 false true false false) := by
  refine returnsInHanded_of_change_sized (C := Try.checked) own started (by kernel_rfl) Try.func6
    (ChangeSpec.witness6 (enc := enc) (C := Try.checked) false ⟨#[], #[.agg #[.int .u64 0, .int .i64 0]], []⟩ 8 (by kernel_rfl) (by kernel_rfl) (by kernel_rfl) (by kernel_rfl)) ?_
  intro W base args ds gs before hval0 hW hcnd hsz0 _
  have hsz : (DataW.weightsEach Try.prog (Try.f6.params.toList ++ Rows.bitsNilSpec.plain.varTypes Try.prog) (ds ++ gs)).all (· ≤ reachBytes) = true := hsz0
  have hval : ∀ (j : Nat) t v, Try.f6.params[j]? = some t → args[j]? = some v → Value.okWide Try.prog W .any base t v := hval0
  have hW' := hW
  obtain ⟨p, q, hA0, hV, rfl, hfz, hnd⟩ := hW
  have hA : DataW.TrodAll enc Try.prog W 0 (fun _ => true) true Try.f6.params.toList args.toList ds p := hA0
  rw [Try.params6] at hA hval hsz
  obtain ⟨v0, vs0, d0, ds0, p0, q0, hargs, rfl, rfl, h0, r0⟩ := trodAll_cons hA
  obtain ⟨rfl, rfl, rfl⟩ := trodAll_nil r0
  obtain rfl : args = #[v0] := by cases args; simp_all
  obtain ⟨rfl, rfl⟩ := trodVars_none hV
  obtain ⟨cs0, rfl, _⟩ := okWide_struct Try.underlying34 (hval 0 34 v0 rfl rfl)
  have k0 := h0
  have lt0 : ∀ x ∈ p0, x.block < W.heap.size := by obtain ⟨m, hm⟩ := k0; exact DataW.trod_lt m _ _ _ hm
  obtain ⟨y0, q0, W0⟩ := opens_arg (opens_iso (fun x : S34 => (x.f0, x.f1)) (fun y => ⟨y.1, y.2⟩) (fun _ => rfl) (opens_struct Try.underlying34 (opensF_cons (opens_int Try.underlying32) rfl (by kernel_rfl) (opensF_last (opens_int Try.underlying3) rfl (by kernel_rfl)) rfl) (by kernel_rfl))) hsz (j := 0) (t := 34) rfl rfl h0
  have e0 := k34_open q0
  obtain rfl : cs0 = #[.int .u64 y0.f0, .int .i64 y0.f1] := by cases cs0; simpa [Value.cells] using e0
  clear hA0 hval0 hsz0 hsz
  have h := Pure.BitsNil y0.f0 y0.f1 W0.1 W0.2
  refine (Ytinadbbncambdaa.X.marigraphlaw02_BitsNil.calls y0.f0 y0.f1 true W h).mono fun e W' ⟨he, bel⟩ => ?_
  subst he
  exact ⟨_, rfl, _, _, _, [], _, [], hW', trodAll_mk1 (shut_bool Try.underlying4 _), (trodAll_cons_mk (Below.trod laidOut (by kernel_rfl) (of_decide_eq_true (by kernel_rfl)) k0 bel lt0) trodAll_mk0), rfl, bel.frame _, fun h => by cases h⟩
theorem over : Rows.bitsNilRow.holds Try.pinned (OpenSpec.ofChange Rows.bitsNilSpec) :=
  OpenClaim.holds_of_wide 6 Try.f6 rfl rfl rfl rfl rfl rfl rfl ⟨rfl, rfl, rfl, rfl, rfl⟩ rfl rfl rfl rfl rfl (by kernel_rfl) Try.func6 (by kernel_rfl)
    (of_decide_eq_true (by kernel_rfl)) (by unfold Func.isWrapper; first | (rw [if_pos (by decide +kernel)]; kernel_rfl) | (rw [if_neg (by decide +kernel)]; exact ⟨rfl, rfl⟩))
    (fun os started H enc _ => lifted os started H enc)
theorem proved : Rows.BitsNilSaid := over
#print axioms proved
end Go.Proofs.Ytinadbbncambdaa.bitsNil
namespace Go.Proofs.Ytinadbbncambdaa
/-- The row, under a short name, for the claim. -/
theorem bitsNil_holds : Rows.BitsNilSaid := bitsNil.proved
end Go.Proofs.Ytinadbbncambdaa
