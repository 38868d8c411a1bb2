/- StepsSame, walked. -/
import Derived.Test.YthkpnnbjcendcaaGb
import Derived.Test.YthkpnnbjcendcaaSpp
set_option linter.unusedVariables false
set_option linter.unusedSimpArgs false
open Go.RowKit Go.Proofs.Ythkpnnbjcendcaa.X Go.Proofs.Ythkpnnbjcendcaa.Pl Go.Proofs.Ythkpnnbjcendcaa.Sp Go.Proofs.Ythkpnnbjcendcaa.Sc Go.Proofs.Ythkpnnbjcendcaa.Pure Go.Proofs.YthkpnnbjcendcaaW.PrintWords Go.Proofs.YthkpnnbjcendcaaW.PrintLast Go.Proofs.YthkpnnbjcendcaaW.PrintMore
namespace Go.Proofs.Ythkpnnbjcendcaa.Sc
theorem sput_n (A0 : Option Addr) (c0 n : Nat) (l0 : List S52) (O : List Int) (q : Int) (w : World) (hn : l0.length = n) (ho : (putR l0).1 = O) (hq : (putR l0).2 = q) (hr0 : Kd.C k52 w A0 l0.length l0) (hc0 : n ≤ c0) (hl : n < 4611686018427387904) (hf : fitP l0) :
    Calls Try.prog 29 #[.slice A0 n c0] w fun e w' => ∃ v, e = .returned (.tuple #[v, .int .i64 q]) ∧ Kd.R (Kd.int .u8) 5 w' w.heap.size (fun _ => True) v O ∧ Below w.heap.size w w' := by
  subst hn
  exact sput_named A0 c0 l0 O q w ho hq hr0 hc0 hl hf
end Go.Proofs.Ythkpnnbjcendcaa.Sc
namespace Go.Proofs.Ythkpnnbjcendcaa.Pure
theorem same_arith (m lt d b : Nat) (hm2 : 2 ≤ m) (hm3 : m ≤ 1000) (hb3 : b ≤ 400) (hb4 : lt = 1 + (b + 7) / 8) (hdd : d = 1 + (b + 2 * (m - 2) + 7) / 8) :
    ∃ e1 e2 n2 e3 e4 e5 e6 l1 e7 e8 : Nat, wrap64 (8 * (d : Int)) = (e1 : Int) ∧ wrap64 (8 * (lt : Int)) = (e2 : Int) ∧ wrap64 ((m : Int) - 2) = (n2 : Int) ∧ wrap64 (2 * (n2 : Int)) = (e3 : Int) ∧ wrap64 ((e2 : Int) + (e3 : Int)) = (e4 : Int) ∧ wrap64 ((e4 : Int) + 7) = (e5 : Int) ∧ wrap64 ((e1 : Int) + 7) = (e6 : Int) ∧ wrap64 ((lt : Int) - 1) = (l1 : Int) ∧ wrap64 (8 * (l1 : Int)) = (e7 : Int) ∧ wrap64 ((e7 : Int) + (e3 : Int)) = (e8 : Int) ∧
      (lt ≤ d) = True ∧ ((lt : Int) ≤ (d : Int)) = True ∧ (e1 ≤ e5) = True ∧ ((e1 : Int) ≤ (e5 : Int)) = True ∧ (e8 ≤ e6) = True ∧ ((e8 : Int) ≤ (e6 : Int)) = True := by
  have a1 : lt ≤ 60 ∧ 1 ≤ lt ∧ d ≤ 400 ∧ lt ≤ d ∧ 8 * d ≤ 8 * lt + 2 * (m - 2) + 7 ∧ 8 * (lt - 1) + 2 * (m - 2) ≤ 8 * d + 7 := by omega
  clear hb3 hb4 hdd
  obtain ⟨a1, a2, a3, a4, a5, a6⟩ := a1
  refine ⟨8 * d, 8 * lt, m - 2, 2 * (m - 2), 8 * lt + 2 * (m - 2), 8 * lt + 2 * (m - 2) + 7, 8 * d + 7, lt - 1, 8 * (lt - 1), 8 * (lt - 1) + 2 * (m - 2), ?_, ?_, ?_, ?_, ?_, ?_, ?_, ?_, ?_, ?_, eq_true a4, eq_true (by omega), eq_true a5, eq_true (by omega), eq_true a6, eq_true (by omega)⟩
  all_goals (rw [w64 (by omega) (by omega)]; omega)
end Go.Proofs.Ythkpnnbjcendcaa.Pure
namespace Go.Proofs.Ythkpnnbjcendcaa.X
def marigraphlaw04_StepsSame.Fit (a b c d e : Int) : Prop := (Lit.int .i32 a).wf = true ∧ (Lit.int .i32 b).wf = true ∧ (Lit.int .u16 c).wf = true ∧ (Lit.int .i16 d).wf = true ∧ (Lit.int .u16 e).wf = true
open Classical in
noncomputable def marigraphlaw04_StepsSame.f (a b c d e : Int) : Option Bool := if marigraphlaw04_StepsSame.Fit a b c d e then some true else none
set_option maxHeartbeats 8000000 in
set_option maxRecDepth 100000 in
theorem marigraphlaw04_StepsSame.calls (a0 a1 a2 a3 a4 : Int) (r : Bool) (w : World) (h : marigraphlaw04_StepsSame.f a0 a1 a2 a3 a4 = some r) :
    Calls Try.prog 7 #[.int .i32 a0, .int .i32 a1, .int .u16 a2, .int .i16 a3, .int .u16 a4] w fun e w' => e = .returned (.bool r) ∧ Below w.heap.size w w' := by
  unfold marigraphlaw04_StepsSame.f at h
  split at h
  case isFalse => cases h
  case isTrue hfit =>
  obtain rfl := Option.some.inj h
  obtain ⟨h0, h1, h2, h3, h4⟩ := hfit
  have hr : InR a0 a1 a2 a3 := by
    refine ⟨?_, ?_, ?_, ?_⟩
    · simpa [Lit.wf, IntKind.min, IntKind.max, IntKind.signed, IntKind.bits] using h0
    · simpa [Lit.wf, IntKind.min, IntKind.max, IntKind.signed, IntKind.bits] using h1
    · simpa [Lit.wf, IntKind.min, IntKind.max, IntKind.signed, IntKind.bits] using h2
    · simpa [Lit.wf, IntKind.min, IntKind.max, IntKind.signed, IntKind.bits] using h3
  have hc : 0 ≤ a4 ∧ a4 ≤ 65535 := by simpa [Lit.wf, IntKind.min, IntKind.max, IntKind.signed, IntKind.bits] using h4
  obtain ⟨m, hm⟩ : ∃ m : Nat, m = a4.toNat % 999 + 2 := ⟨_, rfl⟩
  have hm1 : wrap64 (Int.tmod a4 999 + 2) = (m : Int) := by rw [tmod_pos hc.1, w64 (by omega) (by omega)]; omega
  have hm2 : Int.tmod a4 999 + 2 = (m : Int) := by rw [tmod_pos hc.1]; omega
  have hm3 : a4 % 999 + 2 = (m : Int) := by omega
  have hm4 : wrap64 (a4 % 999 + 2) = (m : Int) := by rw [w64 (by omega) (by omega)]; omega
  have HM := Aside0.mk (show 2 ≤ m ∧ m ≤ 1000 by omega)
  have hm5 : wrap64 (Int.tmod a4 999) = Int.tmod a4 999 := by rw [tmod_pos hc.1, w64 (by omega) (by omega)]
  have HN := Aside0.mk hr
  have HB := Aside0.mk (Below.refl w.heap.size w)
  have HS := Aside0.mk (Sep.nil w.heap.size w)
  clear h h0 h1 h2 h3 h4 hc hm hr
  go_enter Try.func7, Try.ntmps7
  go_wp2_with (first
    | ((with_reducible refine gate_dst (N := 20) rfl ?_); (try (refine gate_guard (by rfl) ?_; dsimp only)); refine goesL_ (some 20) rfl rfl Try.func32 (by kernel_rfl) rfl #[] rfl (by (try simp only [List.map_toArray, List.map_cons, List.map_nil]); first | done | rfl) ?_; (with_reducible refine (shown4_calls _).mono ?_); rintro e w2 ⟨rfl, hb⟩; refine ⟨_, rfl, ?_⟩; have n0_ := Aside0.mk (below_step (by repeat (first | (with_reducible first | exact HB.out | apply below_alloc | apply pw_below_drewN | apply below_drew1) | exact HB.out)) hb); have n1_ := Aside0.mk (Sep.below (by repeat (first | (with_reducible first | exact HS.out | apply sep_alloc | apply sep_drewN | apply sep_drew) | exact HS.out)) hb); clear HB HS; have HB := n0_; have HS := n1_; clear n0_ n1_ hb))
  go_loopg [13, 14, 26] m (fun kq v13 v14 v26 w' => ∃ (j : Nat) (O : List S52) (F : Nat → Prop), v26 = .int .i64 (j : Int) ∧ Aside0 (kq + j = m ∧ O = ptsL a0 a1 a2 a3 j) ∧ Aside0 (Sep w.heap.size w' [row F k52 52 w.heap.size v13 O]) ∧ Aside0 (Below w.heap.size w w'))
  case atStart => exact ⟨0, [], _, rfl, ⟨by omega, rfl⟩, ⟨HS.out.nilrow k52 52⟩, HB⟩
  case round =>
    clear HS HB hm1 hm2 hm3 hm4 hm5
    obtain ⟨j, O, F, rfl, HI, HS, HB⟩ := hrel
    obtain ⟨A_, c_, e_⟩ := Kd.R_slice (Sep.R HS.out)
    by_cases hlt : j < m
    · subst e_
      obtain ⟨k1, rfl⟩ : ∃ q, gk = q + 1 := ⟨gk - 1, by have := HI.out; omega⟩
      have c1b : decide ((j : Int) < (m : Int)) = true := decide_eq_true (by omega)
      have c1n : decide (j < m) = true := decide_eq_true hlt
      have hnx : wrap64 ((j : Int) + 1) = ((j + 1 : Nat) : Int) := by have := HM.out; rw [w64 (by omega) (by omega)]; simp
      have hbd := pt_bounds HN.out j (by have := HM.out; omega)
      have hft := pt_fits HN.out j (by have := HM.out; omega)
      have hz0 : wrap64 a0 = a0 := wrap_id (by have := HN.out; unfold InR at this; unfold fits64; omega)
      have hz1 : wrap64 a1 = a1 := wrap_id (by have := HN.out; unfold InR at this; unfold fits64; omega)
      have hz2 : wrap64 a2 = a2 := wrap_id (by have := HN.out; unfold InR at this; unfold fits64; omega)
      have hz3 : wrap64 a3 = a3 := wrap_id (by have := HN.out; unfold InR at this; unfold fits64; omega)
      have hdt : wrap64 (a2 + 1) = a2 + 1 := wrap_id (by have := HN.out; unfold InR at this; unfold fits64; omega)
      have hml : wrap64 ((j : Int) * (a2 + 1)) = (j : Int) * (a2 + 1) := wrap_id (by unfold fits64; omega)
      have hml2 : wrap64 ((j : Int) * a3) = (j : Int) * a3 := wrap_id (by unfold fits64; omega)
      obtain ⟨x0, hx0⟩ : ∃ x, a0 + (j : Int) * (a2 + 1) = x := ⟨_, rfl⟩
      obtain ⟨x1, hx1⟩ : ∃ x, a1 + (j : Int) * a3 = x := ⟨_, rfl⟩
      have HP := Aside0.mk (show ptI a0 a1 a2 a3 j = ⟨x0, x1⟩ by rw [← hx0, ← hx1]; rfl)
      have hw0 : wrap64 x0 = x0 := wrap_id (by have := hft.1; unfold ptI at this; dsimp only at this; rw [hx0] at this; exact this)
      have hw1 : wrap64 x1 = x1 := wrap_id (by have := hft.2; unfold ptI at this; dsimp only at this; rw [hx1] at this; exact this)
      have HX := Aside0.mk hnx
      have HJ := Aside0.mk hlt
      have HOL := Aside0.mk (show O.length ≤ 1000 by rw [HI.out.2, ptsL_length]; have := HM.out; omega)
      clear hnx hlt hbd hft
      go_wp2_with (first
        | ((with_reducible refine gate_builtin (b := .append) (xs := #[.tmp 29, .tmp 46]) rfl ?_); (at_builtin); (refine wp_append k52 (w0 := w) rfl (.tmp 29) (.tmp 46) 44 52 (.agg #[.int .i64 0, .int .i64 0]) 16 rfl Try.underlying44 info52 rfl (by decide) (by omega) ((⟨x0, x1⟩ : S52)) [.int .i64 x0, .int .i64 x1] HS.out rfl rfl (k52_mkM _ _ _ (⟨x0, x1⟩ : S52)) (by repeat (first | (with_reducible first | exact HB.out | apply below_alloc | apply pw_below_drewN | apply below_drew1) | exact HB.out)) (by have := HOL.out; omega) ?_); (intro v_ w_ F_ hs_ hb_); (obtain ⟨O1, hy_⟩ : ∃ y_, y_ = O ++ [(⟨x0, x1⟩ : S52)] := ⟨_, rfl⟩; rw [← hy_] at hs_; have HO1 := Aside0.mk hy_; clear hy_ HB HS; have HB := Aside0.mk hb_; have HS := Aside0.mk hs_; clear hs_ hb_; obtain ⟨A_, c_, e_⟩ := Kd.R_slice (Sep.R HS.out); subst e_); (skip)))
      go_roundg k1
      case measure => omega
      case rel => exact ⟨j + 1, O1, _, (by first | rfl | rw [HX.out]), ⟨by have := HI.out; omega, by rw [HO1.out, HI.out.2, ptsL_snoc, HP.out]⟩, HS, HB⟩
    · have c1b : decide ((j : Int) < (m : Int)) = false := decide_eq_false (by omega)
      have c1n : decide (j < m) = false := decide_eq_false hlt
      have hj : j = m := by have := HI.out; omega
      have HOE := Aside0.mk (show O = ptsL a0 a1 a2 a3 m from hj ▸ HI.out.2)
      have hOL : O.length = m := by rw [HOE.out, ptsL_length]
      rw [hOL] at e_
      subst e_
      obtain ⟨b, hb1, hb2, hb3, hb4, hb5⟩ := even_put HN.out m HM.out.1 HM.out.2
      rw [← HOE.out] at hb1 hb2 hb4 hb5
      obtain ⟨X1, hX1⟩ : ∃ x, (putR (O.take 2)).1 = x := ⟨_, rfl⟩
      obtain ⟨X2, hX2⟩ : ∃ x, (putR O).1 = x := ⟨_, rfl⟩
      rw [hX1] at hb4
      rw [hX2] at hb5
      obtain ⟨lt, hlt_⟩ : ∃ x, x = X1.length := ⟨_, rfl⟩
      obtain ⟨la, hla⟩ : ∃ x, x = X2.length := ⟨_, rfl⟩
      rw [← hlt_] at hb4
      rw [← hla] at hb5
      have hm2 := HM.out.1
      have hm3 := HM.out.2
      have HX1 := Aside0.mk hX1
      have HX2 := Aside0.mk hX2
      have HQ1 := Aside0.mk hb1
      have HQ2 := Aside0.mk hb2
      have HL1 := Aside0.mk hlt_.symm
      have HL2 := Aside0.mk hla.symm
      have HF := Aside0.mk (show fitP O by rw [HOE.out]; exact ptsL_fits HN.out m (by omega))
      have HF2 := Aside0.mk (show fitP (O.take 2) from fun y hy => HF.out y (List.mem_of_mem_take hy))
      have HOL := Aside0.mk hOL
      have HTL := Aside0.mk (show (O.take 2).length = 2 by rw [List.length_take, hOL]; omega)
      have HCK := Aside0.mk (show m ≤ c_ from by have := (Kd.R_reads' (Sep.R HS.out)).2.1; omega)
      obtain ⟨i05, hi05, _, hsz5, _⟩ := info_parts info52
      have hcut := cut_to (P := Try.prog) 44 52 .i64 Try.underlying44 hi05 A_ m c_ 2 (by omega) (by omega) HCK.out
      simp only [Int.reduceToNat] at hcut
      have hk2 := eq_true (show (2 : Int) ≤ (m : Int) by omega)
      have hk2b := eq_true hm2
      by_cases hmo : m > 127
      · rw [if_pos hmo] at hb5
        have hmob : decide ((127 : Int) < (m : Int)) = true := decide_eq_true (by omega)
        have hmon : decide (127 < m) = true := decide_eq_true hmo
        obtain ⟨d, hd⟩ : ∃ x, x = la - 2 + 1 := ⟨_, rfl⟩
        have hdr : wrap64 ((la : Int) - 1) = (d : Int) := by rw [w64 (by omega) (by omega)]; omega
        have hdd : d = 1 + (b + 2 * (m - 2) + 7) / 8 := by omega
        obtain ⟨e1, e2, n2, e3, e4, e5, e6, l1, e7, e8, r1, r2, r3, r4, r5, r6, r7, r8, r9, r10, k1, k1i, k2, k2i, k3, k3i⟩ := same_arith m lt d b hm2 hm3 hb3 hb4 hdd
        clear hd hdd hb1 hb2 hb3 hb4 hb5 hX1 hX2 hlt_ hla hm2 hm3 hOL hi05 hsz5 hj hlt hmo
        go_wp2_with (first
          | ((with_reducible refine gate_dst (N := 52) rfl ?_); (try (refine gate_guard (by rfl) ?_; dsimp only)); refine goesL_ (some 52) rfl rfl Try.func29 (by kernel_rfl) rfl #[.slice A_ 2 c_] rfl (by (try simp only [List.map_toArray, List.map_cons, List.map_nil]); first | done | rfl) ?_; (with_reducible refine (sput_n A_ c_ 2 (O.take 2) X1 0 _ HTL.out HX1.out HQ2.out (C_take' (Kd.R_reads' (Sep.R HS.out)).2.2 2) (by have := HCK.out; have := HM.out; omega) (by decide) HF2.out).mono ?_); rintro e w2 ⟨v, rfl, ho, hb⟩; refine ⟨_, rfl, ?_⟩; obtain ⟨A1, c1, e_⟩ := Kd.R_slice ho; rw [HL1.out] at e_; subst e_; obtain ⟨F1, hs_⟩ := Sep.newrow (by repeat (first | (with_reducible first | exact HS.out | apply sep_alloc | apply sep_drewN | apply sep_drew) | exact HS.out)) hb (below_size (by repeat (first | (with_reducible first | exact HB.out | apply below_alloc | apply pw_below_drewN | apply below_drew1) | exact HB.out))) ho; have n0_ := Aside0.mk (below_step (by repeat (first | (with_reducible first | exact HB.out | apply below_alloc | apply pw_below_drewN | apply below_drew1) | exact HB.out)) hb); clear HB HS hb ho; have HB := n0_; have HS := Aside0.mk hs_; clear n0_ hs_)
          | ((with_reducible refine gate_dst (N := 57) rfl ?_); (try (refine gate_guard (by rfl) ?_; dsimp only)); refine goesL_ (some 57) rfl rfl Try.func29 (by kernel_rfl) rfl #[.slice A_ m c_] rfl (by (try simp only [List.map_toArray, List.map_cons, List.map_nil]); first | done | rfl) ?_; (with_reducible refine (sput_n A_ c_ m O X2 0 _ HOL.out HX2.out HQ1.out (Kd.R_reads' (Sep.R HS.out.p2)).2.2 HCK.out (by have := HM.out; omega) HF.out).mono ?_); rintro e w2 ⟨v, rfl, ho, hb⟩; refine ⟨_, rfl, ?_⟩; obtain ⟨A2, c2, e_⟩ := Kd.R_slice ho; rw [HL2.out] at e_; subst e_; obtain ⟨F2, hs_⟩ := Sep.newrow (by repeat (first | (with_reducible first | exact HS.out | apply sep_alloc | apply sep_drewN | apply sep_drew) | exact HS.out)) hb (below_size (by repeat (first | (with_reducible first | exact HB.out | apply below_alloc | apply pw_below_drewN | apply below_drew1) | exact HB.out))) ho; have n0_ := Aside0.mk (below_step (by repeat (first | (with_reducible first | exact HB.out | apply below_alloc | apply pw_below_drewN | apply below_drew1) | exact HB.out)) hb); clear HB HS hb ho; have HB := n0_; have HS := Aside0.mk hs_; clear n0_ hs_))
        go_ret
        exact ⟨rfl, HB.out⟩
      · rw [if_neg hmo] at hb5
        have hmob : decide ((127 : Int) < (m : Int)) = false := decide_eq_false (by omega)
        have hmon : decide (127 < m) = false := decide_eq_false hmo
        obtain ⟨d, hd⟩ : ∃ x, x = la := ⟨_, rfl⟩
        have hdr : wrap64 (la : Int) = (d : Int) := by rw [w64 (by omega) (by omega)]; omega
        have hdd : d = 1 + (b + 2 * (m - 2) + 7) / 8 := by omega
        obtain ⟨e1, e2, n2, e3, e4, e5, e6, l1, e7, e8, r1, r2, r3, r4, r5, r6, r7, r8, r9, r10, k1, k1i, k2, k2i, k3, k3i⟩ := same_arith m lt d b hm2 hm3 hb3 hb4 hdd
        clear hd hdd hb1 hb2 hb3 hb4 hb5 hX1 hX2 hlt_ hla hm2 hm3 hOL hi05 hsz5 hj hlt hmo
        go_wp2_with (first
          | ((with_reducible refine gate_dst (N := 52) rfl ?_); (try (refine gate_guard (by rfl) ?_; dsimp only)); refine goesL_ (some 52) rfl rfl Try.func29 (by kernel_rfl) rfl #[.slice A_ 2 c_] rfl (by (try simp only [List.map_toArray, List.map_cons, List.map_nil]); first | done | rfl) ?_; (with_reducible refine (sput_n A_ c_ 2 (O.take 2) X1 0 _ HTL.out HX1.out HQ2.out (C_take' (Kd.R_reads' (Sep.R HS.out)).2.2 2) (by have := HCK.out; have := HM.out; omega) (by decide) HF2.out).mono ?_); rintro e w2 ⟨v, rfl, ho, hb⟩; refine ⟨_, rfl, ?_⟩; obtain ⟨A1, c1, e_⟩ := Kd.R_slice ho; rw [HL1.out] at e_; subst e_; obtain ⟨F1, hs_⟩ := Sep.newrow (by repeat (first | (with_reducible first | exact HS.out | apply sep_alloc | apply sep_drewN | apply sep_drew) | exact HS.out)) hb (below_size (by repeat (first | (with_reducible first | exact HB.out | apply below_alloc | apply pw_below_drewN | apply below_drew1) | exact HB.out))) ho; have n0_ := Aside0.mk (below_step (by repeat (first | (with_reducible first | exact HB.out | apply below_alloc | apply pw_below_drewN | apply below_drew1) | exact HB.out)) hb); clear HB HS hb ho; have HB := n0_; have HS := Aside0.mk hs_; clear n0_ hs_)
          | ((with_reducible refine gate_dst (N := 57) rfl ?_); (try (refine gate_guard (by rfl) ?_; dsimp only)); refine goesL_ (some 57) rfl rfl Try.func29 (by kernel_rfl) rfl #[.slice A_ m c_] rfl (by (try simp only [List.map_toArray, List.map_cons, List.map_nil]); first | done | rfl) ?_; (with_reducible refine (sput_n A_ c_ m O X2 0 _ HOL.out HX2.out HQ1.out (Kd.R_reads' (Sep.R HS.out.p2)).2.2 HCK.out (by have := HM.out; omega) HF.out).mono ?_); rintro e w2 ⟨v, rfl, ho, hb⟩; refine ⟨_, rfl, ?_⟩; obtain ⟨A2, c2, e_⟩ := Kd.R_slice ho; rw [HL2.out] at e_; subst e_; obtain ⟨F2, hs_⟩ := Sep.newrow (by repeat (first | (with_reducible first | exact HS.out | apply sep_alloc | apply sep_drewN | apply sep_drew) | exact HS.out)) hb (below_size (by repeat (first | (with_reducible first | exact HB.out | apply below_alloc | apply pw_below_drewN | apply below_drew1) | exact HB.out))) ho; have n0_ := Aside0.mk (below_step (by repeat (first | (with_reducible first | exact HB.out | apply below_alloc | apply pw_below_drewN | apply below_drew1) | exact HB.out)) hb); clear HB HS hb ho; have HB := n0_; have HS := Aside0.mk hs_; clear n0_ hs_))
        go_ret
        exact ⟨rfl, HB.out⟩
end Go.Proofs.Ythkpnnbjcendcaa.X
