/- StepsCut, walked. -/
import Derived.Test.YthkpnnbjcendcaaSbk
set_option linter.unusedVariables false
set_option linter.unusedSimpArgs false
open Go.RowKit Go.Proofs.Ythkpnnbjcendcaa.X Go.Proofs.Ythkpnnbjcendcaa.Pl Go.Proofs.Ythkpnnbjcendcaa.Sp Go.Proofs.Ythkpnnbjcendcaa.Sc Go.Proofs.Ythkpnnbjcendcaa.Pure Go.Proofs.YthkpnnbjcendcaaW.PrintWords Go.Proofs.YthkpnnbjcendcaaW.PrintLast Go.Proofs.YthkpnnbjcendcaaW.PrintMore
namespace Go.Proofs.Ythkpnnbjcendcaa.Pure
theorem bt_ext (b s : List Int) (q : Nat) (h : q < 8 * b.length) : bt (b ++ s) q = bt b q := by
  unfold bt by_
  rw [List.getD_eq_getElem?_getD, List.getD_eq_getElem?_getD, List.getElem?_append_left (by omega)]
theorem seg_more {b s : List Int} {L : List Bool} (h : Seg b 0 L) : Seg (b ++ s) 0 L := by
  obtain ⟨h1, h2⟩ := h
  refine ⟨by rw [List.length_append]; omega, fun j hj => ?_⟩
  rw [bt_ext _ _ _ (by omega)]
  exact h2 j hj
/-- No bytes that were put go on in others. -/
theorem put_more {l m : List S52} {b s : List Int} (hl : fitP l) (hm : fitP m) (h1 : putR l = (b, 0)) (h2 : putR m = (b ++ s, 0)) : s = [] := by
  obtain ⟨r, xs, ys, q, e1, _, d1, z1⟩ := put_dec hl h1
  obtain ⟨r', xs', ys', q', e2, _, d2, z2⟩ := put_dec hm h2
  rw [e1, List.append_assoc] at e2
  obtain ⟨e3, e4⟩ := varint_inj _ _ _ _ e2
  obtain ⟨f1, f2, f3, f4, f5, f6⟩ := (XY_seg r _ 0 (Nat.zero_le _) xs ys q).1 d1
  have d3 := (XY_seg (r ++ s) _ 0 (Nat.zero_le _) xs ys q).2 ⟨f1, f2, f3, f4, seg_more f5, f6⟩
  rw [e4, e3, d2] at d3
  injection d3 with d3
  injection d3 with g1 d3
  injection d3 with g2 g3
  rw [g1, g2, z1] at z2
  rw [← z2, h1] at h2
  injection h2 with h2 _
  have := congrArg List.length h2
  rw [List.length_append] at this
  exact List.length_eq_zero_iff.1 (by omega)
theorem cut_none {l : List S52} {b : List Int} (hl : fitP l) (h : putR l = (b, 0)) (k : Nat) (hk : k < b.length) : takeR (b.take k) = ([], 6) := take_no fun m hm hp => by
  have e : b = b.take k ++ b.drop k := (List.take_append_drop _ _).symm
  rw [e] at h
  have := put_more hm hl hp h
  have := congrArg List.length this
  rw [List.length_drop] at this
  simp at this
  omega
theorem more_none {l : List S52} {b : List Int} (hl : fitP l) (h : putR l = (b, 0)) (x : Int) : takeR (b ++ [x]) = ([], 6) := take_no fun m hm hp => by
  have := put_more hl hm h hp
  cases this
end Go.Proofs.Ythkpnnbjcendcaa.Pure
namespace Go.Proofs.Ythkpnnbjcendcaa.X
def marigraphlaw04_StepsCut.Fit (l : List S52) (a b : Int) : Prop := l.length * 16 ≤ 140737488351232 ∧ (∀ y ∈ l, (Lit.int .i64 y.f0).wf = true ∧ (Lit.int .i64 y.f1).wf = true) ∧ (Lit.int .u16 a).wf = true ∧ (Lit.int .u8 b).wf = true
open Classical in
noncomputable def marigraphlaw04_StepsCut.f (l : List S52) (a b : Int) : Option Bool := if marigraphlaw04_StepsCut.Fit l a b then some true else none
set_option maxHeartbeats 16000000 in
set_option maxRecDepth 100000 in
theorem marigraphlaw04_StepsCut.calls (A0 : Option Addr) (c0 : Nat) (l0 : List S52) (a1 a2 : Int) (r : Bool) (w : World) (hr0 : Kd.C k52 w A0 l0.length l0) (hc0 : l0.length ≤ c0) (h : marigraphlaw04_StepsCut.f l0 a1 a2 = some r) :
    Calls Try.prog 13 #[.slice A0 l0.length c0, .int .u16 a1, .int .u8 a2] w fun e w' => e = .returned (.bool r) ∧ Below w.heap.size w w' := by
  unfold marigraphlaw04_StepsCut.f at h
  split at h
  case isFalse => cases h
  case isTrue hfit =>
  obtain rfl := Option.some.inj h
  obtain ⟨hlen, hwf, hw1, hw2⟩ := hfit
  have ha1 : 0 ≤ a1 ∧ a1 ≤ 65535 := by simpa [Lit.wf, IntKind.min, IntKind.max, IntKind.signed, IntKind.bits] using hw1
  have ha2 := wf8 hw2
  obtain ⟨x, hx⟩ : ∃ x, x = l0.take 200 := ⟨_, rfl⟩
  obtain ⟨n, hn⟩ : ∃ m, m = x.length := ⟨_, rfl⟩
  have hn2 : n = min 200 l0.length := by rw [hn, hx, List.length_take]
  have HF := Aside0.mk (show fitP x from fun y hy => by have := hwf y (List.mem_of_mem_take (hx ▸ hy)); exact ⟨wf64 this.1, wf64 this.2⟩)
  have HR := Aside0.mk (show Kd.C k52 w A0 x.length x from hx ▸ C_take' hr0 200)
  have HXL := Aside0.mk hn.symm
  have HCX := Aside0.mk (show n ≤ c0 by omega)
  have HLX := Aside0.mk (show n < 4611686018427387904 by omega)
  have hpb := put_back HF.out (by omega)
  obtain ⟨O, hO⟩ : ∃ a, (putR x).1 = a := ⟨_, rfl⟩
  obtain ⟨q, hq⟩ : ∃ a, (putR x).2 = a := ⟨_, rfl⟩
  have hob := put_bytes_len x
  have hoy := putR_byt x
  have hpr : q = 0 → putR x = (O, 0) := fun h => by rw [← hO, ← h, ← hq]
  rw [hO] at hpb hob hoy
  rw [hq] at hpb
  have HO := Aside0.mk hO
  have HQ := Aside0.mk hq
  obtain ⟨nO, hnO⟩ : ∃ a, O.length = a := ⟨_, rfl⟩
  have HOL := Aside0.mk hnO
  have HOM := Aside0.mk (show nO ≤ 20000 by omega)
  have HOY := Aside0.mk hoy
  have HB := Aside0.mk (Below.refl w.heap.size w)
  have HS := Aside0.mk (Sep.nil w.heap.size w)
  have hmx : (if 200 < (l0.length : Int) then 200 else (l0.length : Int)) = (n : Int) := by split <;> omega
  have c5b0 := eq_true (show 0 ≤ (n : Int) by omega)
  have c5b1 : decide (0 ≤ (n : Int)) = true := decide_eq_true (by omega)
  have q6 : (n : Int) ≤ (l0.length : Int) := by omega
  have c6b1 : decide ((n : Int) ≤ (l0.length : Int)) = true := decide_eq_true q6
  obtain ⟨i06, hi06, _, hsz6, _⟩ := info_parts info52
  have hcut6 := cut_to (P := Try.prog) 44 52 .i64 Try.underlying44 hi06 A0 l0.length c0 (n : Int) (by omega) q6 hc0
  rw [Int.toNat_natCast] at hcut6
  replace q6 := eq_true q6
  clear h hr0 hc0 hlen hwf hx hn hn2 hi06 hsz6 hw1 hw2 hO hq hob hoy
  rcases hpb with ⟨hrb, hq0, _⟩ | ⟨hrb, hq1, _⟩
  · have hpr := hpr hq0
    have hne : (q != 0) = false := by rw [hq0]; rfl
    have hpos : 0 < nO := by
      obtain ⟨r, _, _, _, e, _⟩ := put_dec HF.out hpr
      rw [← hnO]
      have := varint_ne x.length r
      rw [← e] at this
      exact List.length_pos_iff.2 this
    have hz : ((nO : Int) == 0) = false := by rw [beq_eq_false_iff_ne]; omega
    have hz4 := eq_false (show ¬ nO = 0 by omega)
    have hz5 := eq_false (show ¬ (nO : Int) = 0 by omega)
    obtain ⟨k, hk⟩ : ∃ k, k = a1.toNat % nO := ⟨_, rfl⟩
    have hkl : k < nO := by rw [hk]; exact Nat.mod_lt _ hpos
    have hk1 : Int.tmod a1 (nO : Int) = (k : Int) := by
      rw [tmod_pos ha1.1, hk, Int.natCast_emod, Int.toNat_of_nonneg ha1.1]
    have HK1 := Aside0.mk hk1
    clear hk hk1
    have hk2 : wrap64 (k : Int) = (k : Int) := by have := HOM.out; rw [w64 (by omega) (by omega)]
    have hcv : wrap64 a1 = a1 := by rw [w64 (by omega) (by omega)]
    have k1i := eq_true (show 0 ≤ (k : Int) by omega)
    have k2i := eq_true (show (k : Int) ≤ (nO : Int) by omega)
    have k3i := eq_true (show k ≤ nO by omega)
    have HT1 := Aside0.mk (show takeR (O.take k) = ([], 6) from cut_none HF.out hpr k (by rw [hnO]; exact hkl))
    have HT2 := Aside0.mk (show takeR (O ++ [a2]) = ([], 6) from more_none HF.out hpr a2)
    have HKL := Aside0.mk (show (O.take k).length = k by rw [List.length_take, hnO]; omega)
    have HKN := Aside0.mk (show k < 1000000 by have := HOM.out; omega)
    have HKO := Aside0.mk (show k ≤ nO by omega)
    have HB1 := Aside0.mk (show Byt (O.take k) from fun y hy => HOY.out y (List.mem_of_mem_take hy))
    have HB2 := Aside0.mk (show Byt (O ++ [a2]) from fun y hy => by
      rcases List.mem_append.1 hy with h | h
      · exact HOY.out y h
      · rw [List.mem_singleton.1 h]; exact ha2)
    obtain ⟨i05, hi05, _, hsz5, _⟩ := info_parts info5
    have HCUT := Aside0.mk (fun (A : Option Addr) (c : Nat) (hc : nO ≤ c) => cut_to (P := Try.prog) 24 5 .i64 Try.underlying24 hi05 A nO c (k : Int) (by omega) (by omega) hc)
    have hk1 := HK1.out
    clear hpr hrb hq0 hkl hi05 hsz5 ha1 ha2 hnO hpos
    go_enter Try.func13, Try.ntmps13
    go_wp2_with (first
      | (go_at_call 32; ((with_reducible refine (shown4_calls _).mono ?_); rintro e w0_ ⟨rfl, hb⟩; have n0_ := Aside0.mk (below_step (by repeat (first | (with_reducible first | exact HB.out | apply below_alloc | apply pw_below_drewN | apply below_drew1) | exact HB.out)) hb); have n1_ := Aside0.mk (Sep.below (by repeat (first | (with_reducible first | exact HS.out | apply sep_alloc | apply sep_drewN | apply sep_drew) | exact HS.out)) hb); clear HB HS; have HB := n0_; have HS := n1_; clear n0_ n1_ hb))
      | (go_at_call 29; ((with_reducible refine (sput_n A0 c0 n x O q _ HXL.out HO.out HQ.out (Kd.C_below HR.out HB.out) HCX.out HLX.out HF.out).mono ?_); rintro e w1 ⟨v, rfl, ho, hb⟩; obtain ⟨A2, c2, e_⟩ := Kd.R_slice ho; rw [HOL.out] at e_; subst e_; obtain ⟨F2, hs_⟩ := Sep.newrow (by repeat (first | (with_reducible first | exact HS.out | apply sep_alloc | apply sep_drewN | apply sep_drew) | exact HS.out)) hb (below_size (by repeat (first | (with_reducible first | exact HB.out | apply below_alloc | apply pw_below_drewN | apply below_drew1) | exact HB.out))) ho; have n0_ := Aside0.mk (below_step (by repeat (first | (with_reducible first | exact HB.out | apply below_alloc | apply pw_below_drewN | apply below_drew1) | exact HB.out)) hb); clear HB HS hb ho; have HB := n0_; have HS := Aside0.mk hs_; clear n0_ hs_; have hcut5 := HCUT.out A2 c2 (Kd.R_reads' (Sep.R HS.out)).2.1; rw [Int.toNat_natCast] at hcut5))
      | (go_at_call 41; ((with_reducible refine (stake_n A2 c2 k (O.take k) [] 0 6 _ HKL.out rfl (by have := C_take' (Kd.R_reads' (Sep.R HS.out)).2.2 k; exact this) (Nat.le_trans HKO.out (Kd.R_reads' (Sep.R HS.out)).2.1) HB1.out HKN.out HT1.out).mono ?_); rintro e w2 ⟨A3, c3, rfl, hr3, hc3, hb⟩; clear hr3 hc3; have n0_ := Aside0.mk (below_step (by repeat (first | (with_reducible first | exact HB.out | apply below_alloc | apply pw_below_drewN | apply below_drew1) | exact HB.out)) hb); have n1_ := Aside0.mk (Sep.below (by repeat (first | (with_reducible first | exact HS.out | apply sep_alloc | apply sep_drewN | apply sep_drew) | exact HS.out)) hb); clear HB HS; have HB := n0_; have HS := n1_; clear n0_ n1_ hb))
      | ((with_reducible refine gate_dst (N := 50) rfl ?_); (try (refine gate_guard (by rfl) ?_; dsimp only)); (refine wp_lit (Kd.int .u8) (w0 := w) ?hg_ (N := 50) ?hd_ 5 (([] : List Int)) [] ?hr_ ?hp_ (by repeat (first | (with_reducible first | exact HS.out | apply sep_alloc | apply sep_drewN | apply sep_drew) | exact HS.out)) (by repeat (first | (with_reducible first | exact HB.out | apply below_alloc | apply pw_below_drewN | apply below_drew1) | exact HB.out)) (by simp) ?_; (case hd_ => rfl); (case hg_ => rfl); (case hr_ => first | (go_simp; done) | (go_simp; rfl)); (case hp_ => exact (Reps.none _ _))); intro v_ w_ F_ hs_ hb_; clear HB HS; have HB := Aside0.mk hb_; have HS := Aside0.mk hs_; clear hs_ hb_; obtain ⟨A_, c_, e_⟩ := Kd.R_slice (Sep.R HS.out); subst e_; (skip))
      | ((with_reducible refine gate_builtin (b := .append) (xs := #[.tmp 50, .tmp 51]) rfl ?_); (refine wp_append_row (Kd.int .u8) (w0 := w) rfl (.tmp 50) (.tmp 51) 24 5 (.int .u8 0) 1 rfl Try.underlying24 info5 rfl (by decide) (by omega) O _ _ _ HS.out (by have h := (Kd.R_reads' (Sep.R HS.out.drop)).2.2; rw [HOL.out] at h; exact h) (fun _ _ h => h) (by repeat (first | (with_reducible first | exact HB.out | apply below_alloc | apply pw_below_drewN | apply below_drew1) | exact HB.out)) (by have := HOM.out; simp; omega) rfl rfl ?_); (intro v_ w_ F_ hs_ hb_); (obtain ⟨O3, hy_⟩ : ∃ y_, y_ = ([] : List Int) ++ O := ⟨_, rfl⟩; rw [← hy_] at hs_; have HO3 := Aside0.mk hy_; clear hy_ HB HS; have HB := Aside0.mk hb_; have HS := Aside0.mk hs_; clear hs_ hb_; obtain ⟨A_, c_, e_⟩ := Kd.R_slice (Sep.R HS.out); subst e_); (skip))
      | ((with_reducible refine gate_builtin (b := .append) (xs := #[.tmp 52, .tmp 54]) rfl ?_); (at_builtin); (refine wp_append (Kd.int .u8) (w0 := w) rfl (.tmp 52) (.tmp 54) 24 5 (.int .u8 0) 1 rfl Try.underlying24 info5 rfl (by decide) (by omega) (a2) [.int .u8 a2] HS.out rfl rfl rfl (by repeat (first | (with_reducible first | exact HB.out | apply below_alloc | apply pw_below_drewN | apply below_drew1) | exact HB.out)) (by rw [HO3.out]; have := HOM.out; have := HOL.out; simp; omega) ?_); (intro v_ w_ F_ hs_ hb_); (obtain ⟨O4, hy_⟩ : ∃ y_, y_ = O3 ++ [a2] := ⟨_, rfl⟩; rw [← hy_] at hs_; have HO4 := Aside0.mk hy_; clear hy_ HB HS; have HB := Aside0.mk hb_; have HS := Aside0.mk hs_; clear hs_ hb_; obtain ⟨A_, c_, e_⟩ := Kd.R_slice (Sep.R HS.out); subst e_); (skip))
      | (go_at_call 41; ((with_reducible refine (stake_n _ _ O4.length O4 [] 0 6 _ rfl rfl (Kd.R_reads' (Sep.R HS.out)).2.2 (Kd.R_reads' (Sep.R HS.out)).2.1 (by rw [HO4.out, HO3.out, List.nil_append]; exact HB2.out) (by rw [HO4.out, HO3.out]; have := HOM.out; have := HOL.out; simp; omega) (by rw [HO4.out, HO3.out, List.nil_append]; exact HT2.out)).mono ?_); rintro e w3 ⟨A5, c5, rfl, hr5, hc5, hb⟩; clear hr5 hc5; have n0_ := Aside0.mk (below_step (by repeat (first | (with_reducible first | exact HB.out | apply below_alloc | apply pw_below_drewN | apply below_drew1) | exact HB.out)) hb); have n1_ := Aside0.mk (Sep.below (by repeat (first | (with_reducible first | exact HS.out | apply sep_alloc | apply sep_drewN | apply sep_drew) | exact HS.out)) hb); clear HB HS; have HB := n0_; have HS := n1_; clear n0_ n1_ hb)))
    go_ret
    exact ⟨by first | rfl | simp, HB.out⟩
  · have hne : (q != 0) = true := by rw [hq1]; rfl
    have he1 : (q == 1) = true := by rw [hq1]; rfl
    clear hpr hrb hq1 ha1 ha2
    go_enter Try.func13, Try.ntmps13
    go_wp2_with (first
      | (go_at_call 32; ((with_reducible refine (shown4_calls _).mono ?_); rintro e w0_ ⟨rfl, hb⟩; have n0_ := Aside0.mk (below_step (by repeat (first | (with_reducible first | exact HB.out | apply below_alloc | apply pw_below_drewN | apply below_drew1) | exact HB.out)) hb); have n1_ := Aside0.mk (Sep.below (by repeat (first | (with_reducible first | exact HS.out | apply sep_alloc | apply sep_drewN | apply sep_drew) | exact HS.out)) hb); clear HB HS; have HB := n0_; have HS := n1_; clear n0_ n1_ hb))
      | (go_at_call 29; ((with_reducible refine (sput_n A0 c0 n x O q _ HXL.out HO.out HQ.out (Kd.C_below HR.out HB.out) HCX.out HLX.out HF.out).mono ?_); rintro e w1 ⟨v, rfl, ho, hb⟩; obtain ⟨A2, c2, e_⟩ := Kd.R_slice ho; rw [HOL.out] at e_; subst e_; obtain ⟨F2, hs_⟩ := Sep.newrow (by repeat (first | (with_reducible first | exact HS.out | apply sep_alloc | apply sep_drewN | apply sep_drew) | exact HS.out)) hb (below_size (by repeat (first | (with_reducible first | exact HB.out | apply below_alloc | apply pw_below_drewN | apply below_drew1) | exact HB.out))) ho; have n0_ := Aside0.mk (below_step (by repeat (first | (with_reducible first | exact HB.out | apply below_alloc | apply pw_below_drewN | apply below_drew1) | exact HB.out)) hb); clear HB HS hb ho; have HB := n0_; have HS := Aside0.mk hs_; clear n0_ hs_)))
    go_ret
    exact ⟨by first | rfl | simp, HB.out⟩
end Go.Proofs.Ythkpnnbjcendcaa.X
