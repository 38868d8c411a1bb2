/- StepsBack, walked. -/
import Derived.Test.YthkpnnbjcendcaaSta
import Derived.Test.YthkpnnbjcendcaaSsm
set_option linter.unusedVariables false
set_option linter.unusedSimpArgs false
open Go.RowKit Go.Proofs.Ythkpnnbjcendcaa.X Go.Proofs.Ythkpnnbjcendcaa.Pl Go.Proofs.Ythkpnnbjcendcaa.Sp Go.Proofs.Ythkpnnbjcendcaa.Sc Go.Proofs.Ythkpnnbjcendcaa.Pure Go.Proofs.YthkpnnbjcendcaaW.PrintWords Go.Proofs.YthkpnnbjcendcaaW.PrintLast Go.Proofs.YthkpnnbjcendcaaW.PrintMore
namespace Go.Proofs.Ythkpnnbjcendcaa.Pure
theorem put_bytes_len (l : List S52) : (putR l).1.length ≤ 20000 := by
  unfold putR
  split
  · simp
  · split
    · simp
    · show (putB l).length ≤ _
      have h1 := marksP_length l 0 0 0 0
      have h2 := (Sc.varint_le 9 l.length (by omega)).2
      unfold putB
      rw [List.length_append, pack_length]
      omega
theorem take_nil : takeR [] = ([], 6) := take_none fun n r _ e => varint_ne n r e.symm
/-- What is put is taken. -/
theorem put_back {x : List S52} (hf : fitP x) (hl : x.length ≤ 1024) : (rightB x = true ∧ (putR x).2 = 0 ∧ takeR (putR x).1 = (x, 0)) ∨ (rightB x = false ∧ (putR x).2 = 1 ∧ takeR (putR x).1 = ([], 6)) := by
  by_cases h : rightB x = false
  · have : putR x = ([], 1) := by unfold putR; rw [if_neg (by omega), if_pos h]
    exact .inr ⟨h, by rw [this], by rw [this]; exact take_nil⟩
  · have : putR x = (putB x, 0) := by unfold putR; rw [if_neg (by omega), if_neg h]
    exact .inl ⟨by simpa using h, by rw [this], by rw [this]; exact take_put hf this⟩
/-- What is taken was put so. -/
theorem take_back (y : List Int) : ((takeR y).2 = 0 ∧ putR (takeR y).1 = (y, 0) ∧ fitP (takeR y).1) ∨ ((takeR y).2 = 6 ∧ (takeR y).1 = [] ∧ fitP (takeR y).1) := by
  rcases take_two y with h | ⟨h1, h2⟩
  · exact .inl ⟨h, (take_ok h).2, (take_ok h).1⟩
  · exact .inr ⟨h1, h2, by rw [h2]; intro z hz; cases hz⟩
end Go.Proofs.Ythkpnnbjcendcaa.Pure
namespace Go.Proofs.Ythkpnnbjcendcaa.Sc
theorem same_n (A0 A1 : Option Addr) (c0 c1 n0 n1 : Nat) (l0 l1 : List S52) (w : World) (he : l0 = l1) (hn0 : l0.length = n0) (hn1 : l1.length = n1) (hr0 : Kd.C k52 w A0 l0.length l0) (hc0 : n0 ≤ c0) (hr1 : Kd.C k52 w A1 l1.length l1) (hc1 : n1 ≤ c1) (hl : n0 < 9223372036854775807) :
    Calls Try.prog 43 #[.slice A0 n0 c0, .slice A1 n1 c1] w fun e w' => e = .returned (.bool true) ∧ Below w.heap.size w w' := by
  subst he hn0 hn1
  exact same_calls A0 A1 c0 c1 _ l0 w rfl hr0 hc0 hr1 hc1 hl
theorem right_n (A0 : Option Addr) (c0 n : Nat) (l0 : List S52) (b : Bool) (w : World) (hn : l0.length = n) (hb : rightB l0 = b) (hr0 : Kd.C k52 w A0 l0.length l0) (hc0 : n ≤ c0) (hl : n < 4611686018427387904) :
    Calls Try.prog 33 #[.slice A0 n c0] w fun e w' => e = .returned (.bool b) ∧ Below w.heap.size w w' := by
  subst hn
  exact right_named A0 c0 l0 b w hb hr0 hc0 hl
end Go.Proofs.Ythkpnnbjcendcaa.Sc
namespace Go.Proofs.Ythkpnnbjcendcaa.X
def marigraphlaw04_StepsBack.Fit (l : List S52) (b : List Int) : Prop := l.length * 16 ≤ 140737488351232 ∧ (∀ y ∈ l, (Lit.int .i64 y.f0).wf = true ∧ (Lit.int .i64 y.f1).wf = true) ∧ b.length * 1 ≤ 140737488351232 ∧ (∀ y ∈ b, (Lit.int .u8 y).wf = true)
open Classical in
noncomputable def marigraphlaw04_StepsBack.f (l : List S52) (b : List Int) : Option Bool := if marigraphlaw04_StepsBack.Fit l b then some true else none
set_option maxHeartbeats 16000000 in
set_option maxRecDepth 100000 in
theorem marigraphlaw04_StepsBack.calls (A0 : Option Addr) (c0 : Nat) (l0 : List S52) (A1 : Option Addr) (c1 : Nat) (l1 : List Int) (r : Bool) (w : World) (hr0 : Kd.C k52 w A0 l0.length l0) (hc0 : l0.length ≤ c0) (hr1 : Kd.C (Kd.int .u8) w A1 l1.length l1) (hc1 : l1.length ≤ c1) (h : marigraphlaw04_StepsBack.f l0 l1 = some r) :
    Calls Try.prog 12 #[.slice A0 l0.length c0, .slice A1 l1.length c1] w fun e w' => e = .returned (.bool r) ∧ Below w.heap.size w w' := by
  unfold marigraphlaw04_StepsBack.f at h
  split at h
  case isFalse => cases h
  case isTrue hfit =>
  obtain rfl := Option.some.inj h
  obtain ⟨hlen, hwf, hlen1, hwf1⟩ := hfit
  obtain ⟨x, hx⟩ : ∃ x, x = l0.take 1024 := ⟨_, rfl⟩
  obtain ⟨n, hn⟩ : ∃ m, m = x.length := ⟨_, rfl⟩
  have hn2 : n = min 1024 l0.length := by rw [hn, hx, List.length_take]
  have HF := Aside0.mk (show fitP x from fun y hy => by have := hwf y (List.mem_of_mem_take (hx ▸ hy)); exact ⟨wf64 this.1, wf64 this.2⟩)
  have HR := Aside0.mk (show Kd.C k52 w A0 x.length x from hx ▸ C_take' hr0 1024)
  have HXL := Aside0.mk hn.symm
  have HCX := Aside0.mk (show n ≤ c0 by omega)
  have HLX := Aside0.mk (show n < 4611686018427387904 by omega)
  obtain ⟨y, hy⟩ : ∃ x, x = l1.take 2000 := ⟨_, rfl⟩
  obtain ⟨m, hm⟩ : ∃ m, m = y.length := ⟨_, rfl⟩
  have hm2 : m = min 2000 l1.length := by rw [hm, hy, List.length_take]
  have HBY := Aside0.mk (show Byt y from fun z hz => wf8 (hwf1 z (List.mem_of_mem_take (hy ▸ hz))))
  have HRY := Aside0.mk (show Kd.C (Kd.int .u8) w A1 m y from hm ▸ hy ▸ C_take' hr1 2000)
  have HYL := Aside0.mk hm.symm
  have HCY := Aside0.mk (show m ≤ c1 by omega)
  have HLY := Aside0.mk (show m < 1000000 by omega)
  have hpb := put_back HF.out (by omega)
  have htb := take_back y
  obtain ⟨O, hO⟩ : ∃ a, (putR x).1 = a := ⟨_, rfl⟩
  obtain ⟨q, hq⟩ : ∃ a, (putR x).2 = a := ⟨_, rfl⟩
  have hob := put_bytes_len x
  have hoy := putR_byt x
  rw [hO] at hpb hob hoy
  rw [hq] at hpb
  have HO := Aside0.mk hO
  have HQ := Aside0.mk hq
  obtain ⟨nO, hnO⟩ : ∃ a, O.length = a := ⟨_, rfl⟩
  have HOL := Aside0.mk hnO
  have HOM := Aside0.mk (show nO < 1000000 by omega)
  have HOY := Aside0.mk hoy
  obtain ⟨lm, f, hlm⟩ : ∃ l z, takeR O = (l, z) := ⟨_, _, rfl⟩
  have HLM := Aside0.mk hlm
  obtain ⟨nm, hnm⟩ : ∃ a, lm.length = a := ⟨_, rfl⟩
  have HNM := Aside0.mk hnm
  have HMN := Aside0.mk (show nm < 9223372036854775807 by have := take_len hlm; omega)
  obtain ⟨ln, g, hln⟩ : ∃ l z, takeR y = (l, z) := ⟨_, _, rfl⟩
  have HLN := Aside0.mk hln
  obtain ⟨nn, hnn⟩ : ∃ a, ln.length = a := ⟨_, rfl⟩
  have HNN := Aside0.mk hnn
  have HNK := Aside0.mk (show nn < 4611686018427387904 by have := take_len hln; omega)
  obtain ⟨C, hC⟩ : ∃ a, (putR ln).1 = a := ⟨_, rfl⟩
  obtain ⟨hh, hhh⟩ : ∃ a, (putR ln).2 = a := ⟨_, rfl⟩
  have HCC := Aside0.mk hC
  have HHH := Aside0.mk hhh
  obtain ⟨rb, hrb⟩ : ∃ a, rightB x = a := ⟨_, rfl⟩
  have HRB := Aside0.mk hrb
  obtain ⟨sC, hsC⟩ : ∃ s, s = strOfNums C := ⟨_, rfl⟩
  obtain ⟨sY, hsY⟩ : ∃ s, s = strOfNums y := ⟨_, rfl⟩
  have HSC := Aside0.mk hsC
  have HSY := Aside0.mk hsY
  rw [hrb, hlm] at hpb
  rw [hln] at htb
  have HFN := Aside0.mk (show fitP ln by rcases htb with ⟨_, _, h⟩ | ⟨_, _, h⟩ <;> exact h)
  have hp : (rb = true ∧ (q == 0) = true ∧ (f != 0) = false ∧ lm = x) ∨ (rb = false ∧ (q == 0) = false) := by
    rcases hpb with ⟨h1, h2, h3⟩ | ⟨h1, h2, h3⟩
    · injection h3 with h3 h4
      exact .inl ⟨h1, by rw [h2]; rfl, by rw [h4]; rfl, h3⟩
    · exact .inr ⟨h1, by rw [h2]; rfl⟩
  have ht : ((g == 0) = true ∧ (hh == 0) = true ∧ (sC.toList == sY.toList) = true) ∨ ((g == 0) = false ∧ (g == 6) = true ∧ ((nn : Int) == 0) = true) := by
    rcases htb with ⟨h1, h2, _⟩ | ⟨h1, h2, _⟩
    · dsimp only at h1 h2
      refine .inl ⟨by rw [h1]; rfl, by rw [← hhh, h2]; rfl, bytes_eq ?_⟩
      rw [hsC, hsY, ← hC, h2]
    · dsimp only at h1 h2
      refine .inr ⟨by rw [h1]; rfl, by rw [h1]; rfl, ?_⟩
      rw [← hnn, h2]; rfl
  have HB := Aside0.mk (Below.refl w.heap.size w)
  have HS := Aside0.mk (Sep.nil w.heap.size w)
  have hmn : (if 2000 < (l1.length : Int) then 2000 else (l1.length : Int)) = (m : Int) := by split <;> omega
  have hmx : (if 1024 < (l0.length : Int) then 1024 else (l0.length : Int)) = (n : Int) := by split <;> omega
  have c3b0 := eq_true (show 0 ≤ (m : Int) by omega)
  have c3b1 : decide (0 ≤ (m : Int)) = true := decide_eq_true (by omega)
  have q5 : (m : Int) ≤ (l1.length : Int) := by omega
  have c4b1 : decide ((m : Int) ≤ (l1.length : Int)) = true := decide_eq_true q5
  have c5b0 := eq_true (show 0 ≤ (n : Int) by omega)
  have c5b1 : decide (0 ≤ (n : Int)) = true := decide_eq_true (by omega)
  have q6 : (n : Int) ≤ (l0.length : Int) := by omega
  have c6b1 : decide ((n : Int) ≤ (l0.length : Int)) = true := decide_eq_true q6
  obtain ⟨i05, hi05, _, hsz5, _⟩ := info_parts info5
  have hcut5 := cut_to (P := Try.prog) 24 5 .i64 Try.underlying24 hi05 A1 l1.length c1 (m : Int) (by omega) q5 hc1
  obtain ⟨i06, hi06, _, hsz6, _⟩ := info_parts info52
  have hcut6 := cut_to (P := Try.prog) 44 52 .i64 Try.underlying44 hi06 A0 l0.length c0 (n : Int) (by omega) q6 hc0
  rw [Int.toNat_natCast] at hcut5 hcut6
  replace q5 := eq_true q5
  replace q6 := eq_true q6
  clear h hr0 hc0 hlen hwf hx hn hn2 hy hm hm2 hr1 hc1 hlen1 hwf1 hpb htb hO hq hob hoy hnO hlm hnm hln hnn hC hhh hrb hsC hsY hi05 hsz5 hi06 hsz6
  rcases hp with ⟨hrb, hq0, hf0, hlx⟩ | ⟨hrb, hq0⟩ <;> rcases ht with ⟨hg0, hh0, hst⟩ | ⟨hg0, hg6, hn0⟩
  all_goals (try have HLX2 := Aside0.mk hlx)
  all_goals (try clear hlx)
  all_goals subst hrb
  all_goals (
    go_enter Try.func12, Try.ntmps12
    go_wp2_with (first
      | (go_at_call 32; ((with_reducible refine (shown4_calls _).mono ?_); rintro e w0_ ⟨rfl, hb⟩; have n0_ := Aside0.mk (below_step (by repeat (first | (with_reducible first | exact HB.out | apply below_alloc | apply pw_below_drewN | apply below_drew1) | exact HB.out)) hb); have n1_ := Aside0.mk (Sep.below (by repeat (first | (with_reducible first | exact HS.out | apply sep_alloc | apply sep_drewN | apply sep_drew) | exact HS.out)) hb); clear HB HS; have HB := n0_; have HS := n1_; clear n0_ n1_ hb))
      | (go_at_call 29; ((with_reducible refine (sput_n A0 c0 n x O q _ HXL.out HO.out HQ.out (Kd.C_below HR.out HB.out) HCX.out HLX.out HF.out).mono ?_); rintro e w1 ⟨v, rfl, ho, hb⟩; obtain ⟨A2, c2, e_⟩ := Kd.R_slice ho; rw [HOL.out] at e_; subst e_; obtain ⟨F2, hs_⟩ := Sep.newrow (by repeat (first | (with_reducible first | exact HS.out | apply sep_alloc | apply sep_drewN | apply sep_drew) | exact HS.out)) hb (below_size (by repeat (first | (with_reducible first | exact HB.out | apply below_alloc | apply pw_below_drewN | apply below_drew1) | exact HB.out))) ho; have n0_ := Aside0.mk (below_step (by repeat (first | (with_reducible first | exact HB.out | apply below_alloc | apply pw_below_drewN | apply below_drew1) | exact HB.out)) hb); clear HB HS hb ho; have HB := n0_; have HS := Aside0.mk hs_; clear n0_ hs_))
      | (go_at_call 41; ((with_reducible refine (stake_n A2 c2 nO O lm nm f _ HOL.out HNM.out (Kd.R_reads' (Sep.R HS.out)).2.2 (Kd.R_reads' (Sep.R HS.out)).2.1 HOY.out HOM.out HLM.out).mono ?_); rintro e w2 ⟨A3, c3, rfl, hr3, hc3, hb⟩; have HR3 := Aside0.mk hr3; have HC3 := Aside0.mk hc3; clear hr3 hc3; have HW3 := Aside0.mk (Below.refl w2.heap.size w2); have n0_ := Aside0.mk (below_step (by repeat (first | (with_reducible first | exact HB.out | apply below_alloc | apply pw_below_drewN | apply below_drew1) | exact HB.out)) hb); have n1_ := Aside0.mk (Sep.below (by repeat (first | (with_reducible first | exact HS.out | apply sep_alloc | apply sep_drewN | apply sep_drew) | exact HS.out)) hb); clear HB HS; have HB := n0_; have HS := n1_; clear n0_ n1_ hb))
      | (go_at_call 33; ((with_reducible refine (right_n A0 c0 n x _ _ HXL.out HRB.out (Kd.C_below HR.out HB.out) HCX.out HLX.out).mono ?_); rintro e w3 ⟨rfl, hb⟩; have n2_ := Aside0.mk (below_step HW3.out hb); clear HW3; have HW3 := n2_; clear n2_; have n0_ := Aside0.mk (below_step (by repeat (first | (with_reducible first | exact HB.out | apply below_alloc | apply pw_below_drewN | apply below_drew1) | exact HB.out)) hb); have n1_ := Aside0.mk (Sep.below (by repeat (first | (with_reducible first | exact HS.out | apply sep_alloc | apply sep_drewN | apply sep_drew) | exact HS.out)) hb); clear HB HS; have HB := n0_; have HS := n1_; clear n0_ n1_ hb))
      | (go_at_call 43; ((with_reducible refine (same_n A3 A0 c3 c0 nm n lm x _ HLX2.out HNM.out HXL.out (Kd.C_below HR3.out HW3.out) HC3.out (Kd.C_below HR.out HB.out) HCX.out HMN.out).mono ?_); rintro e w4 ⟨rfl, hb⟩; have n0_ := Aside0.mk (below_step (by repeat (first | (with_reducible first | exact HB.out | apply below_alloc | apply pw_below_drewN | apply below_drew1) | exact HB.out)) hb); have n1_ := Aside0.mk (Sep.below (by repeat (first | (with_reducible first | exact HS.out | apply sep_alloc | apply sep_drewN | apply sep_drew) | exact HS.out)) hb); clear HB HS; have HB := n0_; have HS := n1_; clear n0_ n1_ hb))
      | (go_at_call 41; ((with_reducible refine (stake_n A1 c1 m y ln nn g _ HYL.out HNN.out (Kd.C_below (HYL.out ▸ HRY.out) HB.out) HCY.out HBY.out HLY.out HLN.out).mono ?_); rintro e w5 ⟨A4, c4, rfl, hr4, hc4, hb⟩; have HR4 := Aside0.mk hr4; have HC4 := Aside0.mk hc4; clear hr4 hc4; have HW4 := Aside0.mk (Below.refl w5.heap.size w5); have n0_ := Aside0.mk (below_step (by repeat (first | (with_reducible first | exact HB.out | apply below_alloc | apply pw_below_drewN | apply below_drew1) | exact HB.out)) hb); have n1_ := Aside0.mk (Sep.below (by repeat (first | (with_reducible first | exact HS.out | apply sep_alloc | apply sep_drewN | apply sep_drew) | exact HS.out)) hb); clear HB HS; have HB := n0_; have HS := n1_; clear n0_ n1_ hb))
      | (go_at_call 29; ((with_reducible refine (sput_n A4 c4 nn ln C hh _ HNN.out HCC.out HHH.out (Kd.C_below HR4.out HW4.out) HC4.out HNK.out HFN.out).mono ?_); rintro e w6 ⟨v, rfl, ho, hb⟩; obtain ⟨A5, c5, e_⟩ := Kd.R_slice ho; subst e_; obtain ⟨F5, hs_⟩ := Sep.newrow (by repeat (first | (with_reducible first | exact HS.out | apply sep_alloc | apply sep_drewN | apply sep_drew) | exact HS.out)) hb (below_size (by repeat (first | (with_reducible first | exact HB.out | apply below_alloc | apply pw_below_drewN | apply below_drew1) | exact HB.out))) ho; have n0_ := Aside0.mk (below_step (by repeat (first | (with_reducible first | exact HB.out | apply below_alloc | apply pw_below_drewN | apply below_drew1) | exact HB.out)) hb); clear HB HS hb ho; have HB := n0_; have HS := Aside0.mk hs_; clear n0_ hs_; have hcv1 := own_string (P := Try.prog) Try.underlying24 Try.underlying5 Try.underlying9 (Kd.own_of_R (Sep.R HS.out)); rw [← HSC.out] at hcv1; have hcv2 := Kd.C_string (P := Try.prog) (c := c1) Try.underlying24 Try.underlying5 Try.underlying9 (Kd.C_below HRY.out HB.out); rw [← HSY.out] at hcv2)))
    go_ret
    exact ⟨by first | rfl | simp, HB.out⟩)
end Go.Proofs.Ythkpnnbjcendcaa.X
