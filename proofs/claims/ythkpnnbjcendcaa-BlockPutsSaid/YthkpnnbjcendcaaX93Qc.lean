-- By xprint.py, out of the translation's own print. Lean checks it.
import Derived.Test.YthkpnnbjcendcaaX0Qc
import Derived.Test.YthkpnnbjcendcaaXaQc
import Derived.Test.YthkpnnbjcendcaaX92Qc
namespace Go.Proofs.Ythkpnnbjcendcaa.X
open Go.RowKit Go.Proofs.YthkpnnbjcendcaaW.PrintWords Go.Proofs.YthkpnnbjcendcaaW.PrintLast Go.Proofs.YthkpnnbjcendcaaW.PrintMore
attribute [local go_sem] max2_int min2_int max_two min_two max_three min_three max_four min_four   -- for this text's walks alone
set_option linter.unusedVariables false
set_option linter.unusedSimpArgs false

/-! ### marigraphref03_Put: function 90 -/
def marigraphref03_Put.f (k : Nat) (l0 : List Int) : Option (List Int) := (marigraphref01_Put.f k ([] : List Int) (IntKind.u64.wrap ((l0.length : Int)))).bind fun t382 => (if t382.length + l0.length < 140737488355328 then ((some (t382 ++ l0 : List Int)).bind fun y385 => ((marigraphref03_Sum.f k y385).bind fun t388 => ((some (([((Int.tdiv t388 16777216) % 4294967296) % 256, ((Int.tdiv t388 65536) % 4294967296) % 256, ((Int.tdiv t388 256) % 4294967296) % 256, (Int.tmod t388 256) % 256] : List Int) : List Int)).bind fun y389 => (if y385.length + y389.length < 140737488355328 then (some (y385 ++ y389)) else (none))))) else (none))
theorem marigraphref03_Put.mono : ∀ a0 k, LeO (marigraphref03_Put.f k a0) (marigraphref03_Put.f (k + 1) a0) := by
  intro a0 k
  unfold marigraphref03_Put.f
  repeat' first
      | (with_reducible exact marigraphref01_Put.mono _ _ _)
      | (with_reducible exact marigraphref03_Sum.mono _ _)
      | (with_reducible exact LeO.refl _)
      | (with_reducible exact LeO.none _)
      | (with_reducible refine LeO.ite ?_ ?_)
      | (with_reducible refine LeO.bind ?_ (fun _ => ?_))
      | exact marigraphref01_Put.mono _ _ _
      | exact marigraphref03_Sum.mono _ _
      | exact LeO.none _
      | refine LeO.ite ?_ ?_
      | refine LeO.bind ?_ (fun _ => ?_)
set_option maxHeartbeats 8000000 in
set_option maxRecDepth 100000 in
theorem marigraphref03_Put.calls (k : Nat) (A0 : Option Addr) (c0 : Nat) (l0 : List Int) (r : List Int) (w : World) (hr0 : Kd.C (Kd.int .u8) w A0 l0.length l0) (hc0 : l0.length ≤ c0) (h : marigraphref03_Put.f k l0 = some r) :
    Calls Try.prog 90 #[.slice A0 l0.length c0] w fun e w' => ∃ v0_ : Value, e = .returned (v0_) ∧ Kd.R (Kd.int .u8) 5 w' w.heap.size (fun _ => True) v0_ r ∧ Below w.heap.size w w' := by
  have HR0 := Aside0.mk hr0
  have HC0 := Aside0.mk hc0
  clear hr0 hc0
  have HB := Aside0.mk (Below.refl w.heap.size w)
  have H : ((marigraphref01_Put.f k ([] : List Int) (IntKind.u64.wrap ((l0.length : Int)))).bind fun t382 => (if t382.length + l0.length < 140737488355328 then ((some (t382 ++ l0 : List Int)).bind fun y385 => ((marigraphref03_Sum.f k y385).bind fun t388 => ((some (([((Int.tdiv t388 16777216) % 4294967296) % 256, ((Int.tdiv t388 65536) % 4294967296) % 256, ((Int.tdiv t388 256) % 4294967296) % 256, (Int.tmod t388 256) % 256] : List Int) : List Int)).bind fun y389 => (if y385.length + y389.length < 140737488355328 then (some (y385 ++ y389)) else (none))))) else (none))) = some r := h
  clear h
  replace H := Option.bind_eq_some_iff.mp H
  obtain ⟨t382, A20, H⟩ := H
  replace H : (if t382.length + l0.length < 140737488355328 then ((some (t382 ++ l0 : List Int)).bind fun y385 => ((marigraphref03_Sum.f k y385).bind fun t388 => ((some (([((Int.tdiv t388 16777216) % 4294967296) % 256, ((Int.tdiv t388 65536) % 4294967296) % 256, ((Int.tdiv t388 256) % 4294967296) % 256, (Int.tmod t388 256) % 256] : List Int) : List Int)).bind fun y389 => (if y385.length + y389.length < 140737488355328 then (some (y385 ++ y389)) else (none))))) else (none)) = some r := H
  have A2 := Aside0.mk A20
  clear A20
  by_cases c3 : t382.length + l0.length < 140737488355328
  · rw [if_pos c3] at H
    have LMc3 := Aside0.mk c3
    clear c3
    obtain ⟨y385, hy385⟩ : ∃ y_ : List Int, y_ = (t382 ++ l0) := ⟨_, rfl⟩
    replace H : ((marigraphref03_Sum.f k y385).bind fun t388 => ((some (([((Int.tdiv t388 16777216) % 4294967296) % 256, ((Int.tdiv t388 65536) % 4294967296) % 256, ((Int.tdiv t388 256) % 4294967296) % 256, (Int.tmod t388 256) % 256] : List Int) : List Int)).bind fun y389 => (if y385.length + y389.length < 140737488355328 then (some (y385 ++ y389)) else (none)))) = some r := by first | (rw [hy385]; with_reducible exact H) | (have H2_ := (Option.bind_some _ _).symm.trans H; rw [hy385]; with_reducible exact H2_) | (have H2_ := (Option.bind_some _ _).symm.trans H; with_reducible exact H2_) | with_reducible exact H | (rw [hy385]; exact H) | exact H
    have Ny385 := Aside0.mk hy385
    clear hy385
    replace H := Option.bind_eq_some_iff.mp H
    obtain ⟨t388, A40, H⟩ := H
    replace H : ((some (([((Int.tdiv t388 16777216) % 4294967296) % 256, ((Int.tdiv t388 65536) % 4294967296) % 256, ((Int.tdiv t388 256) % 4294967296) % 256, (Int.tmod t388 256) % 256] : List Int) : List Int)).bind fun y389 => (if y385.length + y389.length < 140737488355328 then (some (y385 ++ y389)) else (none))) = some r := H
    have A4 := Aside0.mk A40
    clear A40
    obtain ⟨y389, hy389⟩ : ∃ y_ : List Int, y_ = (([((Int.tdiv t388 16777216) % 4294967296) % 256, ((Int.tdiv t388 65536) % 4294967296) % 256, ((Int.tdiv t388 256) % 4294967296) % 256, (Int.tmod t388 256) % 256] : List Int)) := ⟨_, rfl⟩
    replace H : (if y385.length + y389.length < 140737488355328 then (some (y385 ++ y389)) else (none)) = some r := by first | (rw [hy389]; with_reducible exact H) | (have H2_ := (Option.bind_some _ _).symm.trans H; rw [hy389]; with_reducible exact H2_) | (have H2_ := (Option.bind_some _ _).symm.trans H; with_reducible exact H2_) | with_reducible exact H | (rw [hy389]; exact H) | exact H
    have Ny389 := Aside0.mk hy389
    clear hy389
    by_cases c5 : y385.length + y389.length < 140737488355328
    · rw [if_pos c5] at H
      have LMc5 := Aside0.mk c5
      clear c5
      obtain ⟨y392, hy392⟩ : ∃ y_ : List Int, y_ = (y385 ++ y389) := ⟨_, rfl⟩
      replace H : (some y392) = some r := by first | (rw [hy392]; with_reducible exact H) | (have H2_ := (Option.bind_some _ _).symm.trans H; rw [hy392]; with_reducible exact H2_) | (have H2_ := (Option.bind_some _ _).symm.trans H; with_reducible exact H2_) | with_reducible exact H | (rw [hy392]; exact H) | exact H
      have Ny392 := Aside0.mk hy392
      clear hy392
      obtain rfl := Option.some.inj H
      go_enter Try.func90, Try.ntmps90
      go_wp2_with (first | ((with_reducible refine gate_callee (f := 68) rfl ?_); refine goesL_ (some 8) rfl rfl Try.func68 (by kernel_rfl) rfl #[.slice none 0 0, .int .u64 (IntKind.u64.wrap ((l0.length : Int)))] rfl (by (try simp only [List.map_toArray, List.map_cons, List.map_nil]); first | done | rfl | (simp only [List.length_drop, List.length_take]; rfl)) ?_; (refine (marigraphref01_Put.calls k _ _ ([] : List Int) (IntKind.u64.wrap ((l0.length : Int))) t382 _ ?side1 ?side2 A2.out).mono ?_); (case side1 => exact Kd.C_nil _ _); (case side2 => exact Nat.le_refl _); rintro e w6 ⟨v383, rfl, ho0, hb⟩; refine ⟨_, rfl, ?_⟩; have n0_ := Aside0.mk (Kd.R_lower ho0 (below_size (by repeat (first | (with_reducible first | exact HB.out | apply below_alloc | apply pw_below_drewN | apply below_drew1) | exact HB.out)))); have n1_ := Aside0.mk (below_step (by repeat (first | (with_reducible first | exact HB.out | apply below_alloc | apply pw_below_drewN | apply below_drew1) | exact HB.out)) hb); clear HB; have HO384 := n0_; have HB := n1_; clear n0_ n1_; (try clear hb); (try clear hb2); (try clear hk); (try clear hi); (try clear ho0)) | ((with_reducible refine gate_builtin (b := .append) (xs := #[.tmp 8, .tmp 9]) rfl ?_); at_builtin; refine Kd.R_append_rows (Kd.int .u8) (w0 := w) w.heap.size rfl (.tmp 8) (.tmp 9) 24 5 (.int .u8 0) 1 rfl Try.underlying24 info5 rfl (by decide) (by omega) v383 t382 l0 _ _ _ (fun _ => True) (fun _ => False) rfl rfl ?aO ?aR (fun _ _ h => h) (fun _ h => h.elim) ?aF ?aB ?aS ?aL ?_; (case aR => repeat (first | exact (Kd.C_below HR0.out HB.out) | (with_reducible refine Kd.C_alloc ?_ _) | (with_reducible refine Kd.C_drewN ?_ _) | (with_reducible refine Kd.C_drew ?_))); (case aB => exact (by repeat (first | (with_reducible first | exact HB.out | apply below_alloc | apply pw_below_drewN | apply below_drew1) | exact HB.out))); (case aF => exact (fun _ _ => trivial)); (case aO => exact (by (with_reducible repeat (first | apply Kd.R_alloc | apply Kd.R_drewN | apply Kd.R_drew)); exact HO384.out)); (case aS => exact (below_size (by repeat (first | (with_reducible first | exact HB.out | apply below_alloc | apply pw_below_drewN | apply below_drew1) | exact HB.out)))); (case aL => have := LMc3.out; omega); intro v386 w7 ho hb hg hat; rw [← Ny385.out] at ho; have n0_ := Aside0.mk (hb); have n1_ := Aside0.mk (ho); clear HB; clear HO384; have HB := n0_; have HO387 := n1_; clear n0_ n1_; clear ho hb hg hat; obtain ⟨Ao8, co8, eo8⟩ := Kd.R_slice HO387.out; subst eo8) | ((with_reducible refine gate_callee (f := 108) rfl ?_); refine goesL_ (some 12) rfl rfl Try.func108 (by kernel_rfl) rfl #[.slice Ao8 y385.length co8] rfl (by (try simp only [List.map_toArray, List.map_cons, List.map_nil]); first | done | rfl | (simp only [List.length_drop, List.length_take]; rfl)) ?_; (with_reducible refine (marigraphref03_Sum.calls k _ _ y385 t388 _ ?side1 ?side2 A4.out).mono ?_); (case side1 => repeat (first | exact (Kd.R_reads' HO387.out).2.2 | (with_reducible refine Kd.C_alloc ?_ _) | (with_reducible refine Kd.C_drewN ?_ _) | (with_reducible refine Kd.C_drew ?_))); (case side2 => exact (Kd.R_reads' HO387.out).2.1); rintro e w' ⟨rfl, ⟨nd, rfl⟩⟩; refine ⟨_, rfl, ?_⟩) | ((with_reducible refine gate_dst (N := 28) rfl ?_); refine Kd.R_lit (Kd.int .u8) _ 5 ?hg (N := 28) ?hd (xs := ([((Int.tdiv t388 16777216) % 4294967296) % 256, ((Int.tdiv t388 65536) % 4294967296) % 256, ((Int.tdiv t388 256) % 4294967296) % 256, (Int.tmod t388 256) % 256] : List Int)) (inner := [.int .u8 (((Int.tdiv t388 16777216) % 4294967296) % 256), .int .u8 (((Int.tdiv t388 65536) % 4294967296) % 256), .int .u8 (((Int.tdiv t388 256) % 4294967296) % 256), .int .u8 ((Int.tmod t388 256) % 256)]) (ok := fun _ => True) (okp := fun _ => True) ?hr ?hp (fun _ hk => hk) trivial (Below.refl _ _) (Nat.le_refl _) (by simp) ?_; (case hd => rfl); (case hg => rfl); (case hr => first | (go_simp; done) | (go_simp; rfl)); (case hp => exact (Reps.one (show Kd.M (Kd.int .u8) _ _ _ (((Int.tdiv t388 16777216) % 4294967296) % 256) [.int .u8 (((Int.tdiv t388 16777216) % 4294967296) % 256)] from rfl) (Reps.one (show Kd.M (Kd.int .u8) _ _ _ (((Int.tdiv t388 65536) % 4294967296) % 256) [.int .u8 (((Int.tdiv t388 65536) % 4294967296) % 256)] from rfl) (Reps.one (show Kd.M (Kd.int .u8) _ _ _ (((Int.tdiv t388 256) % 4294967296) % 256) [.int .u8 (((Int.tdiv t388 256) % 4294967296) % 256)] from rfl) (Reps.one (show Kd.M (Kd.int .u8) _ _ _ ((Int.tmod t388 256) % 256) [.int .u8 ((Int.tmod t388 256) % 256)] from rfl) (Reps.none _ _)))))); intro v390 w9 ho10 hb hg_ hnew_; clear hg_ hnew_; (first | rw [← Ny389.out] at ho10 | (simp only [Int.reduceToNat] at ho10; rw [← Ny389.out] at ho10)); have n0_ := Aside0.mk (Kd.R_elder' (by (with_reducible repeat (first | apply Kd.R_alloc | apply Kd.R_drewN | apply Kd.R_drew)); exact HO387.out) (Kd.R_base ho10) hb); have n1_ := Aside0.mk (Kd.R_lower (Kd.R_new' ho10 (Kd.R_lt (by (with_reducible repeat (first | apply Kd.R_alloc | apply Kd.R_drewN | apply Kd.R_drew)); exact HO387.out))) (below_size (by repeat (first | (with_reducible first | exact HB.out | apply below_alloc | apply pw_below_drewN | apply below_drew1) | exact HB.out)))); have n2_ := Aside0.mk (below_step (by repeat (first | (with_reducible first | exact HB.out | apply below_alloc | apply pw_below_drewN | apply below_drew1) | exact HB.out)) hb); clear HO387; clear HB; have HO387 := n0_; have HO391 := n1_; have HB := n2_; clear n0_ n1_ n2_; clear hb ho10; obtain ⟨Ao12, co12, eo12⟩ := Kd.R_slice HO391.out; subst eo12) | ((with_reducible refine gate_builtin (b := .append) (xs := #[.tmp 13, .tmp 28]) rfl ?_); at_builtin; refine Kd.R_append_rows (Kd.int .u8) (w0 := w) w.heap.size rfl (.tmp 13) (.tmp 28) 24 5 (.int .u8 0) 1 rfl Try.underlying24 info5 rfl (by decide) (by omega) (.slice Ao8 y385.length co8) y385 y389 _ _ _ (fun k_ => some k_ ≠ (.slice Ao12 y389.length co12 : Value).ownBlock) (fun _ => False) rfl rfl ?aO ?aR (fun _ _ h => h) (fun _ h => h.elim) ?aF ?aB ?aS ?aL ?_; (case aR => repeat (first | exact (Kd.R_reads' HO391.out).2.2 | (with_reducible refine Kd.C_alloc ?_ _) | (with_reducible refine Kd.C_drewN ?_ _) | (with_reducible refine Kd.C_drew ?_))); (case aB => exact (by repeat (first | (with_reducible first | exact HB.out | apply below_alloc | apply pw_below_drewN | apply below_drew1) | exact HB.out))); (case aF => exact (fun k_ hk => Kd.fresh' (Kd.R_lt (by (with_reducible repeat (first | apply Kd.R_alloc | apply Kd.R_drewN | apply Kd.R_drew)); exact HO391.out)) k_ hk)); (case aO => exact (by (with_reducible repeat (first | apply Kd.R_alloc | apply Kd.R_drewN | apply Kd.R_drew)); exact Kd.R_mono HO387.out (fun _ hk => hk.2))); (case aS => exact (below_size (by repeat (first | (with_reducible first | exact HB.out | apply below_alloc | apply pw_below_drewN | apply below_drew1) | exact HB.out)))); (case aL => have := LMc5.out; omega); intro v393 w11 ho hb hg hat; rw [← Ny392.out] at ho; have n0_ := Aside0.mk (Kd.R_after (ok := (fun _ => True)) (by (with_reducible repeat (first | apply Kd.R_alloc | apply Kd.R_drewN | apply Kd.R_drew)); exact HO391.out) hg hat); have n1_ := Aside0.mk (hb); have n2_ := Aside0.mk (ho); clear HO391; clear HB; clear HO387; have HO391 := n0_; have HB := n1_; have HO394 := n2_; clear n0_ n1_ n2_; clear ho hb hg hat))
      go_ret
      exact ⟨_, by first | rfl | (simp [errW_none, errW_some] <;> rfl) | (simp [*, errW_none, errW_some] <;> rfl), by (with_reducible repeat (first | apply Kd.R_alloc | apply Kd.R_drewN | apply Kd.R_drew)); exact Kd.R_mono HO394.out (fun _ hk => trivial), by repeat (first | (with_reducible first | exact HB.out | apply below_alloc | apply pw_below_drewN | apply below_drew1) | exact HB.out)⟩
    · rw [if_neg c5] at H
      exact absurd H (by simp)
  · rw [if_neg c3] at H
    exact absurd H (by simp)

end Go.Proofs.Ythkpnnbjcendcaa.X

