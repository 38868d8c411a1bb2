/- What the law leans on, part 10: Sea, Pbt, Nta, Xtk. -/
import Derived.Test.YthkpnnbjcendcaaQf9
import Derived.Laws.AppendOwn
import Derived.Laws.Cover1
section
/- seal.Take, walked. -/
set_option linter.unusedVariables false
set_option linter.unusedSimpArgs false
open Go.RowKit Go.Proofs.Ythkpnnbjcendcaa.X Go.Proofs.Ythkpnnbjcendcaa.Pl Go.Proofs.Ythkpnnbjcendcaa.Sp Go.Proofs.Ythkpnnbjcendcaa.Pure Go.Proofs.YthkpnnbjcendcaaW.PrintWords Go.Proofs.YthkpnnbjcendcaaW.PrintLast Go.Proofs.YthkpnnbjcendcaaW.PrintMore
namespace Go.Proofs.Ythkpnnbjcendcaa.Sc
theorem wadd {a b c : Nat} (h : a + b = c) (hc : c < 9223372036854775808) : wrap64 ((a : Int) + (b : Int)) = (c : Int) := by rw [w64 (by omega) (by omega)]; omega
theorem wsub {a b c : Nat} (h : b + c = a) (hc : a < 9223372036854775808) : wrap64 ((a : Int) - (b : Int)) = (c : Int) := by rw [w64 (by omega) (by omega)]; omega
theorem wid {a : Nat} (hc : a < 9223372036854775808) : wrap64 (a : Int) = (a : Int) := w64 (by omega) (by omega)
theorem sum_n (A0 : Option Addr) (c0 n : Nat) (b : List Int) (s : Nat) (w : World) (hn : b.length = n) (hs : sumN b = s) (hr0 : Kd.C (Kd.int .u8) w A0 b.length b) (hby : Byt b) (hl : n < 4611686018427387904) :
    Calls Try.prog 107 #[.slice A0 n c0] w fun e w' => e = .returned (.int .u32 (s : Int)) ∧ Below w.heap.size w w' := by
  subst hn hs
  exact sum_calls A0 c0 b w hr0 hby hl
set_option maxHeartbeats 16000000 in
set_option maxRecDepth 100000 in
theorem unseal_no (A0 : Option Addr) (c0 : Nat) (b : List Int) (w : World) (hr0 : Kd.C (Kd.int .u8) w A0 b.length b) (hc0 : b.length ≤ c0) (hby : Byt b) (hl : b.length < 1000000)
    (hno : (∀ m r, m < 2 ^ 64 → b ≠ varint m ++ r) ∨ ∃ m r, m < 2 ^ 64 ∧ b = varint m ++ r ∧ r.length < m + 4) :
    Calls Try.prog 92 #[.slice A0 b.length c0] w fun e w' => e = .returned (.tuple #[.slice none 0 0, .slice none 0 0, .int .i64 6]) ∧ Below w.heap.size w w' := by
  have HB := Aside0.mk (Below.refl w.heap.size w)
  have HS := Aside0.mk (Sep.nil w.heap.size w)
  have HR := Aside0.mk hr0
  have HC := Aside0.mk hc0
  have HBY := Aside0.mk hby
  have HL := Aside0.mk hl
  clear hr0 hc0 hby hl
  rcases hno with hno | ⟨m, r, hm, hbr, hlr⟩
  · have HNO := Aside0.mk hno
    clear hno
    go_enter Try.func92, Try.ntmps92
    go_wp2_with (first
      | (go_at_call 73; ((with_reducible refine (onew_calls A0 c0 b _ (Kd.C_below HR.out HB.out) HC.out HL.out).mono ?_); rintro e w1 ⟨g, F1, A1, c1, rfl, hs_, hb⟩; have n1_ := Aside0.mk (Sep.join (by repeat (first | (with_reducible first | exact HS.out | apply sep_alloc | apply sep_drewN | apply sep_drew) | exact HS.out)) hb (below_size (by repeat (first | (with_reducible first | exact HB.out | apply below_alloc | apply pw_below_drewN | apply below_drew1) | exact HB.out))) hs_); have n0_ := Aside0.mk (below_step (by repeat (first | (with_reducible first | exact HB.out | apply below_alloc | apply pw_below_drewN | apply below_drew1) | exact HB.out)) hb); clear HB HS hs_ hb; have HB := n0_; have HS := n1_; clear n0_ n1_))
      | (go_at_call 74; ((with_reducible refine (num_no g A1 c1 b HNO.out false w _ HB.out HS.out.own (Kd.R_reads' (Sep.R HS.out.drop)).2.2 (Kd.R_reads' (Sep.R HS.out.drop)).2.1 HBY.out HL.out).mono ?_); rintro e w2 ⟨rfl, ht⟩; obtain ⟨F_, hs_⟩ := Turned.sep ht (HS.out) rfl; have n0_ := Aside0.mk (Turned.below ht); clear HB HS ht; have HB := n0_; have HS := Aside0.mk hs_; clear n0_ hs_))
      | (go_at_call 75; ((with_reducible refine (left_calls w.heap.size g none 0 0 true _ HS.out.own).mono ?_); rintro e w3 ⟨rfl, hb⟩; have n0_ := Aside0.mk (below_step (by repeat (first | (with_reducible first | exact HB.out | apply below_alloc | apply pw_below_drewN | apply below_drew1) | exact HB.out)) hb); have n1_ := Aside0.mk (Sep.below (by repeat (first | (with_reducible first | exact HS.out | apply sep_alloc | apply sep_drewN | apply sep_drew) | exact HS.out)) hb); clear HB HS; have HB := n0_; have HS := n1_; clear n0_ n1_ hb)))
    go_ret3
    exact ⟨rfl, HB.out⟩
  · have HM := Aside0.mk hm
    have HBR := Aside0.mk hbr
    obtain ⟨nr, hnr⟩ : ∃ n, n = r.length := ⟨_, rfl⟩
    have HNR := Aside0.mk hnr
    have hbl : b.length = (varint m).length + nr := by rw [hnr, hbr, List.length_append]
    have hnl : nr < 1000000 := by have := HL.out; omega
    rw [← hnr] at hlr
    by_cases h4 : nr < 4
    · have c1b : decide ((nr : Int) < 4) = true := decide_eq_true (by omega)
      have c1n : decide (nr < 4) = true := decide_eq_true h4
      clear hm hbr hnr hbl hnl hlr h4
      go_enter Try.func92, Try.ntmps92
      go_wp2_with (first
        | (go_at_call 73; ((with_reducible refine (onew_calls A0 c0 b _ (Kd.C_below HR.out HB.out) HC.out HL.out).mono ?_); rintro e w1 ⟨g, F1, A1, c1, rfl, hs_, hb⟩; have n1_ := Aside0.mk (Sep.join (by repeat (first | (with_reducible first | exact HS.out | apply sep_alloc | apply sep_drewN | apply sep_drew) | exact HS.out)) hb (below_size (by repeat (first | (with_reducible first | exact HB.out | apply below_alloc | apply pw_below_drewN | apply below_drew1) | exact HB.out))) hs_); have n0_ := Aside0.mk (below_step (by repeat (first | (with_reducible first | exact HB.out | apply below_alloc | apply pw_below_drewN | apply below_drew1) | exact HB.out)) hb); clear HB HS hs_ hb; have HB := n0_; have HS := n1_; clear n0_ n1_))
        | (go_at_call 74; ((with_reducible refine (num_yes m r HM.out g A1 c1 b HBR.out false w _ HB.out HS.out.own (Kd.R_reads' (Sep.R HS.out.drop)).2.2 (Kd.R_reads' (Sep.R HS.out.drop)).2.1 HBY.out HL.out).mono ?_); rintro e w2 ⟨A2, c2, rfl, hlc, hcd, ht⟩; rw [← HNR.out] at ht; clear hlc hcd; obtain ⟨F_, hs_⟩ := Turned.sep ht (HS.out) rfl; have n0_ := Aside0.mk (Turned.below ht); clear HB HS ht; have HB := n0_; have HS := Aside0.mk hs_; clear n0_ hs_))
        | (go_at_call 75; ((with_reducible refine (left_calls w.heap.size g A2 nr c2 false _ HS.out.own).mono ?_); rintro e w3 ⟨rfl, hb⟩; have n0_ := Aside0.mk (below_step (by repeat (first | (with_reducible first | exact HB.out | apply below_alloc | apply pw_below_drewN | apply below_drew1) | exact HB.out)) hb); have n1_ := Aside0.mk (Sep.below (by repeat (first | (with_reducible first | exact HS.out | apply sep_alloc | apply sep_drewN | apply sep_drew) | exact HS.out)) hb); clear HB HS; have HB := n0_; have HS := n1_; clear n0_ n1_ hb)))
      go_ret3
      exact ⟨rfl, HB.out⟩
    · have c1b : decide ((nr : Int) < 4) = false := decide_eq_false (by omega)
      have c1n : decide (nr < 4) = false := decide_eq_false h4
      obtain ⟨n4, hn4⟩ : ∃ n, n = nr - 4 := ⟨_, rfl⟩
      have hs4 : wrap64 ((nr : Int) - 4) = (n4 : Int) := by rw [w64 (by omega) (by omega)]; omega
      have hu4 : IntKind.u64.wrap (n4 : Int) = (n4 : Int) := w_u64 (by omega) (by omega)
      have c2b : decide ((n4 : Int) < (m : Int)) = true := decide_eq_true (by omega)
      have c2n : decide (n4 < m) = true := decide_eq_true (by omega)
      clear hm hbr hnr hbl hnl hlr h4 hn4
      go_enter Try.func92, Try.ntmps92
      go_wp2_with (first
        | (go_at_call 73; ((with_reducible refine (onew_calls A0 c0 b _ (Kd.C_below HR.out HB.out) HC.out HL.out).mono ?_); rintro e w1 ⟨g, F1, A1, c1, rfl, hs_, hb⟩; have n1_ := Aside0.mk (Sep.join (by repeat (first | (with_reducible first | exact HS.out | apply sep_alloc | apply sep_drewN | apply sep_drew) | exact HS.out)) hb (below_size (by repeat (first | (with_reducible first | exact HB.out | apply below_alloc | apply pw_below_drewN | apply below_drew1) | exact HB.out))) hs_); have n0_ := Aside0.mk (below_step (by repeat (first | (with_reducible first | exact HB.out | apply below_alloc | apply pw_below_drewN | apply below_drew1) | exact HB.out)) hb); clear HB HS hs_ hb; have HB := n0_; have HS := n1_; clear n0_ n1_))
        | (go_at_call 74; ((with_reducible refine (num_yes m r HM.out g A1 c1 b HBR.out false w _ HB.out HS.out.own (Kd.R_reads' (Sep.R HS.out.drop)).2.2 (Kd.R_reads' (Sep.R HS.out.drop)).2.1 HBY.out HL.out).mono ?_); rintro e w2 ⟨A2, c2, rfl, hlc, hcd, ht⟩; rw [← HNR.out] at ht; clear hlc hcd; obtain ⟨F_, hs_⟩ := Turned.sep ht (HS.out) rfl; have n0_ := Aside0.mk (Turned.below ht); clear HB HS ht; have HB := n0_; have HS := Aside0.mk hs_; clear n0_ hs_))
        | (go_at_call 75; ((with_reducible refine (left_calls w.heap.size g A2 nr c2 false _ HS.out.own).mono ?_); rintro e w3 ⟨rfl, hb⟩; have n0_ := Aside0.mk (below_step (by repeat (first | (with_reducible first | exact HB.out | apply below_alloc | apply pw_below_drewN | apply below_drew1) | exact HB.out)) hb); have n1_ := Aside0.mk (Sep.below (by repeat (first | (with_reducible first | exact HS.out | apply sep_alloc | apply sep_drewN | apply sep_drew) | exact HS.out)) hb); clear HB HS; have HB := n0_; have HS := n1_; clear n0_ n1_ hb)))
      go_ret3
      exact ⟨rfl, HB.out⟩
set_option maxHeartbeats 32000000 in
set_option maxRecDepth 100000 in
theorem unseal_at (A0 : Option Addr) (c0 : Nat) (b : List Int) (w : World) (hr0 : Kd.C (Kd.int .u8) w A0 b.length b) (hc0 : b.length ≤ c0) (hby : Byt b) (hl : b.length < 1000000)
    (m : Nat) (r : List Int) (hbr : b = varint m ++ r) (hmr : m + 4 ≤ r.length) :
    Calls Try.prog 92 #[.slice A0 b.length c0] w fun e w' =>
      ((r.drop m).take 4 = footL (sumN (varint m ++ r.take m)) ∧ (∃ v1 A2 c2, e = .returned (.tuple #[v1, .slice A2 (r.drop (m + 4)).length c2, .int .i64 0]) ∧ Kd.R (Kd.int .u8) 5 w' w.heap.size (fun _ => True) v1 (r.take m)) ∧ Below w.heap.size w w') ∨
      ((r.drop m).take 4 ≠ footL (sumN (varint m ++ r.take m)) ∧ e = .returned (.tuple #[.slice none 0 0, .slice none 0 0, .int .i64 6]) ∧ Below w.heap.size w w') := by
  have HB := Aside0.mk (Below.refl w.heap.size w)
  have HS := Aside0.mk (Sep.nil w.heap.size w)
  have HR := Aside0.mk hr0
  have HC := Aside0.mk hc0
  have HBY := Aside0.mk hby
  have HL := Aside0.mk hl
  obtain ⟨nr, hnr⟩ : ∃ n, n = r.length := ⟨_, rfl⟩
  have HNR := Aside0.mk hnr
  have HBR := Aside0.mk hbr
  obtain ⟨nb, hnb⟩ : ∃ n, n = b.length := ⟨_, rfl⟩
  have HNB := Aside0.mk hnb
  obtain ⟨k, hk⟩ : ∃ k, k = (varint m).length := ⟨_, rfl⟩
  have hbl : nb = k + nr := by rw [hnb, hnr, hk, hbr, List.length_append]
  rw [← hnr] at hmr
  rw [← hnb] at hl hc0
  have hm64 : m < 2 ^ 64 := by omega
  have HM := Aside0.mk hm64
  clear hm64
  obtain ⟨n4, hn4⟩ : ∃ n, n = nr - 4 := ⟨_, rfl⟩
  obtain ⟨q, hq⟩ : ∃ q, q = k + m := ⟨_, rfl⟩
  obtain ⟨q4, hq4⟩ : ∃ q4, q4 = q + 4 := ⟨_, rfl⟩
  obtain ⟨nu, hnu⟩ : ∃ n, n = (r.drop (m + 4)).length := ⟨_, rfl⟩
  have hnu2 : nu = nr - (m + 4) := by rw [hnu, List.length_drop, hnr]
  have l1 : nr < 1000000 := by omega
  have l2 : q4 ≤ nb := by omega
  have l3 : nb - q4 = nu := by omega
  have l4 : q4 - q = 4 := by omega
  have l5 : q - k = m := by omega
  have l6 : 4 + n4 = nr := by omega
  have l7 : nr + k = nb := by omega
  have l8 : m ≤ n4 := by omega
  have l9 : k ≤ q := by omega
  have l10 : q ≤ q4 := by omega
  have l11 : q ≤ nb := by omega
  have l12 : m < 1000000 := by omega
  have l13 : 4 ≤ nr := by omega
  have ht1 : b.take q = varint m ++ r.take m := by
    rw [hbr, hq, hk, List.take_append, List.take_of_length_le (Nat.le_add_right _ _), Nat.add_sub_cancel_left]
  have ht3 : (b.take q).drop k = r.take m := by rw [ht1, hk, List.drop_left]
  have ht4 : b.drop q4 = r.drop (m + 4) := by
    rw [hbr, hq4, hq, hk, Nat.add_assoc, ← List.drop_drop, List.drop_left]
  have ht2 : (b.take q4).drop q = (r.drop m).take 4 := by
    rw [hq4, List.drop_take, Nat.add_sub_cancel_left, hbr, hq, hk, ← List.drop_drop, List.drop_left]
  have HT1 := Aside0.mk ht1
  clear hbl hmr hn4 hq hq4 hnu2
  subst hnb
  obtain ⟨i05, hi05, _, hsz5, _⟩ := info_parts info5
  have hcut1 := cut_to (P := Try.prog) 24 5 .i64 Try.underlying24 hi05 A0 b.length c0 (q : Int) (by omega) (by omega) hc0
  have hcut2 := cut_mid (P := Try.prog) 24 5 .i64 .i64 Try.underlying24 hi05 1 hsz5 A0 b.length c0 (q : Int) (q4 : Int) (by omega) (by omega) (by omega) hc0
  have hcut3 := cut_mid (P := Try.prog) 24 5 .i64 .i64 Try.underlying24 hi05 1 hsz5 A0 b.length c0 (k : Int) (q : Int) (by omega) (by omega) (by omega) hc0
  have hcut4 := cut_from (P := Try.prog) 24 5 .i64 Try.underlying24 hi05 1 hsz5 A0 b.length c0 (q4 : Int) (by omega) (by omega)
  rw [Int.toNat_natCast] at hcut1
  rw [Int.toNat_natCast, Int.toNat_natCast, l4] at hcut2
  rw [Int.toNat_natCast, Int.toNat_natCast, l5] at hcut3
  rw [Int.toNat_natCast, l3] at hcut4
  obtain ⟨A5, hA5⟩ : ∃ A, A = (if c0 = q then A0 else A0.map (fun x => x.add (q * 1))) := ⟨_, rfl⟩
  obtain ⟨A6, hA6⟩ : ∃ A, A = (if c0 = k then A0 else A0.map (fun x => x.add (k * 1))) := ⟨_, rfl⟩
  obtain ⟨A7, hA7⟩ : ∃ A, A = (if c0 = q4 then A0 else A0.map (fun x => x.add (q4 * 1))) := ⟨_, rfl⟩
  obtain ⟨c5, hc5⟩ : ∃ x, x = c0 - q := ⟨_, rfl⟩
  obtain ⟨c6, hc6⟩ : ∃ x, x = c0 - k := ⟨_, rfl⟩
  obtain ⟨c7, hc7⟩ : ∃ x, x = c0 - q4 := ⟨_, rfl⟩
  rw [← hA5, ← hc5] at hcut2
  rw [← hA6, ← hc6] at hcut3
  rw [← hA7, ← hc7] at hcut4
  obtain ⟨F5, hF5⟩ : ∃ F, F = (r.drop m).take 4 := ⟨_, rfl⟩
  obtain ⟨x, hx⟩ : ∃ x, x = r.take m := ⟨_, rfl⟩
  obtain ⟨u, hu⟩ : ∃ u, u = r.drop (m + 4) := ⟨_, rfl⟩
  rw [← hF5] at ht2
  rw [← hx] at ht1 ht3
  rw [← hu] at ht4
  have e5 : F5.length = 4 := by rw [← ht2, List.length_drop, List.length_take]; omega
  have e6 : x.length = m := by rw [← ht3, List.length_drop, List.length_take]; omega
  have e7 : u.length = nu := by rw [← ht4, List.length_drop]; exact l3
  have HX1 := Aside0.mk (show Kd.C (Kd.int .u8) w A0 (b.take q).length (b.take q) from C_take' HR.out q)
  have HC5 := Aside0.mk (show Kd.C (Kd.int .u8) w A5 4 F5 by
    have := Kd.C_mid (lo := q) (hi := q4) HR.out l10 l2 HC.out
    rw [ht2, e5] at this
    rw [hA5]
    exact this)
  have HC6 := Aside0.mk (show Kd.C (Kd.int .u8) w A6 m x by
    have := Kd.C_mid (lo := k) (hi := q) HR.out l9 l11 HC.out
    rw [ht3, e6] at this
    rw [hA6]
    exact this)
  have HC7 := Aside0.mk (show Kd.C (Kd.int .u8) w A7 nu u by
    have := Kd.C_drop (m := q4) HR.out l2 HC.out
    rw [ht4, e7] at this
    rw [hA7]
    exact this)
  obtain ⟨s, hs⟩ : ∃ s, s = sumN (b.take q) := ⟨_, rfl⟩
  have hs32 : s < 4294967296 := by rw [hs]; exact sumN_lt (fun y hy => HBY.out y (List.mem_of_mem_take hy))
  have HQL := Aside0.mk (show (b.take q).length = q by rw [List.length_take]; omega)
  have HQS := Aside0.mk hs.symm
  have HQB := Aside0.mk (show Byt (b.take q) from fun y hy => HBY.out y (List.mem_of_mem_take hy))
  rw [ht1] at hs
  obtain ⟨p3, hp3⟩ : ∃ p, p = s / 16777216 := ⟨_, rfl⟩
  obtain ⟨p2, hp2⟩ : ∃ p, p = s / 65536 := ⟨_, rfl⟩
  obtain ⟨p1, hp1⟩ : ∃ p, p = s / 256 := ⟨_, rfl⟩
  obtain ⟨z3, hz3⟩ : ∃ p, p = p3 % 256 := ⟨_, rfl⟩
  obtain ⟨z2, hz2⟩ : ∃ p, p = p2 % 256 := ⟨_, rfl⟩
  obtain ⟨z1, hz1⟩ : ∃ p, p = p1 % 256 := ⟨_, rfl⟩
  obtain ⟨z0, hz0⟩ : ∃ p, p = s % 256 := ⟨_, rfl⟩
  have hfoot : footL s = [(z3 : Int), (z2 : Int), (z1 : Int), (z0 : Int)] := by
    unfold footL
    rw [← hp3, ← hp2, ← hp1, hz3, hz2, hz1, hz0]
    simp
  obtain ⟨V, hV⟩ : ∃ V, V = [(z3 : Int), (z2 : Int), (z1 : Int), (z0 : Int)] := ⟨_, rfl⟩
  have hVU := str_inj (xs := F5) (ys := V) (fun y hy => HBY.out y (List.mem_of_mem_take (List.mem_of_mem_drop (ht2 ▸ hy)))) (by rw [hV, ← hfoot]; exact footL_byt s)
  obtain ⟨sV, hsV⟩ : ∃ s, s = strOfNums V := ⟨_, rfl⟩
  obtain ⟨sU, hsU⟩ : ∃ s, s = strOfNums F5 := ⟨_, rfl⟩
  rw [← hsV, ← hsU] at hVU
  have HSV := Aside0.mk hsV
  have HSU := Aside0.mk hsU
  have HV := Aside0.mk hV
  have g3 : (s : Int) / 2 ^ 24 = (p3 : Int) := by omega
  have g3b : (s : Int) / 16777216 = (p3 : Int) := by omega
  have g2 : (s : Int) / 2 ^ 16 = (p2 : Int) := by omega
  have g2b : (s : Int) / 65536 = (p2 : Int) := by omega
  have g1 : (s : Int) / 2 ^ 8 = (p1 : Int) := by omega
  have g1b : (s : Int) / 256 = (p1 : Int) := by omega
  have y3 : IntKind.u8.wrap (p3 : Int) = (z3 : Int) := by rw [IntKind.wrap_u8']; omega
  have y2 : IntKind.u8.wrap (p2 : Int) = (z2 : Int) := by rw [IntKind.wrap_u8']; omega
  have y1 : IntKind.u8.wrap (p1 : Int) = (z1 : Int) := by rw [IntKind.wrap_u8']; omega
  have y0 : IntKind.u8.wrap (s : Int) = (z0 : Int) := by rw [IntKind.wrap_u8']; omega
  have c1b : decide ((nr : Int) < 4) = false := decide_eq_false (by omega)
  have c1n : decide (nr < 4) = false := decide_eq_false (by omega)
  have c2b : decide ((n4 : Int) < (m : Int)) = false := decide_eq_false (by omega)
  have c2n : decide (n4 < m) = false := decide_eq_false (by omega)
  have k1 := eq_true l11
  have k2 := eq_true l2
  have k3 := eq_true l9
  have k4 := eq_true l10
  have HQ6 := Aside0.mk (show q < 4611686018427387904 by omega)
  have HML := Aside0.mk l12
  have HNUL := Aside0.mk (show nu < 1000000 by omega)
  have HAL := Aside0.mk (show (([] : List Int).length + m) * 1 ≤ 140737488355328 by rw [List.length_nil]; omega)
  have HBL := Aside0.mk (show (([] : List Int).length + nu) * 1 ≤ 140737488355328 by rw [List.length_nil]; omega)
  have hs4 : wrap64 ((nr : Int) - 4) = (n4 : Int) := wsub (b := 4) l6 (by omega)
  have hkw : wrap64 ((b.length : Int) - (nr : Int)) = (k : Int) := wsub l7 (by omega)
  have hmw : wrap64 (m : Int) = (m : Int) := wid (by omega)
  have l14 : k + m = q := by clear hs4 hkw hmw; omega
  have hqw : wrap64 ((k : Int) + (m : Int)) = (q : Int) := wadd l14 (by clear hs4 hkw hmw; omega)
  have hq4w : wrap64 ((q : Int) + 4) = (q4 : Int) := wadd (b := 4) (by clear hs4 hkw hmw hqw; omega) (by clear hs4 hkw hmw hqw; omega)
  have hu4 : IntKind.u64.wrap (n4 : Int) = (n4 : Int) := by clear hs4 hkw hmw hqw hq4w; exact w_u64 (by omega) (by omega)
  clear hi05 hsz5 hA5 hA6 hA7 hc5 hc6 hc7 ht1 ht2 ht3 ht4 HT1 hs32 hp3 hp2 hp1 hz3 hz2 hz1 hz0 l1 l2 l3 l4 l5 l6 l7 l8 l9 l10 l11 l12 l13 l14 hnr hl hby hc0 hr0 hnu hk hbr
  by_cases heq : sU = sV
  · have c8 := bytes_eq heq
    have HEQ := Aside0.mk (show F5 = footL (sumN (varint m ++ x)) by rw [← hs, hfoot, ← hV]; exact hVU.1 heq)
    rw [← hF5, ← hx, ← hu]
    have HE7 := Aside0.mk e7
    clear heq hVU hs hfoot hV hsV hsU hF5 hx e5 hu e6 e7
    go_enter Try.func92, Try.ntmps92
    go_wp2_with (first
      | (go_at_call 73; ((with_reducible refine (onew_calls A0 c0 b _ (Kd.C_below HR.out HB.out) HC.out HL.out).mono ?_); rintro e w1 ⟨g, F1, A1, c1, rfl, hs_, hb⟩; have n1_ := Aside0.mk (Sep.join (by repeat (first | (with_reducible first | exact HS.out | apply sep_alloc | apply sep_drewN | apply sep_drew) | exact HS.out)) hb (below_size (by repeat (first | (with_reducible first | exact HB.out | apply below_alloc | apply pw_below_drewN | apply below_drew1) | exact HB.out))) hs_); have n0_ := Aside0.mk (below_step (by repeat (first | (with_reducible first | exact HB.out | apply below_alloc | apply pw_below_drewN | apply below_drew1) | exact HB.out)) hb); clear HB HS hs_ hb; have HB := n0_; have HS := n1_; clear n0_ n1_))
      | (go_at_call 74; ((with_reducible refine (num_yes m r HM.out g A1 c1 b HBR.out false w _ HB.out HS.out.own (Kd.R_reads' (Sep.R HS.out.drop)).2.2 (Kd.R_reads' (Sep.R HS.out.drop)).2.1 HBY.out HL.out).mono ?_); rintro e w2 ⟨A2, c2, rfl, hlc, hcd, ht⟩; rw [← HNR.out] at ht; clear hlc hcd; obtain ⟨F_, hs_⟩ := Turned.sep ht (HS.out) rfl; have n0_ := Aside0.mk (Turned.below ht); clear HB HS ht; have HB := n0_; have HS := Aside0.mk hs_; clear n0_ hs_))
      | (go_at_call 75; ((with_reducible refine (left_calls w.heap.size g A2 nr c2 false _ HS.out.own).mono ?_); rintro e w3 ⟨rfl, hb⟩; have n0_ := Aside0.mk (below_step (by repeat (first | (with_reducible first | exact HB.out | apply below_alloc | apply pw_below_drewN | apply below_drew1) | exact HB.out)) hb); have n1_ := Aside0.mk (Sep.below (by repeat (first | (with_reducible first | exact HS.out | apply sep_alloc | apply sep_drewN | apply sep_drew) | exact HS.out)) hb); clear HB HS; have HB := n0_; have HS := n1_; clear n0_ n1_ hb))
      | (go_at_call 107; ((with_reducible refine (sum_n A0 c0 q (b.take q) s _ HQL.out HQS.out (Kd.C_below HX1.out HB.out) HQB.out HQ6.out).mono ?_); rintro e w4 ⟨rfl, hb⟩; have n0_ := Aside0.mk (below_step (by repeat (first | (with_reducible first | exact HB.out | apply below_alloc | apply pw_below_drewN | apply below_drew1) | exact HB.out)) hb); have n1_ := Aside0.mk (Sep.below (by repeat (first | (with_reducible first | exact HS.out | apply sep_alloc | apply sep_drewN | apply sep_drew) | exact HS.out)) hb); clear HB HS; have HB := n0_; have HS := n1_; clear n0_ n1_ hb)))
    refine start_ (n := 20) (S := fun w' => (convert 24 9 (.slice A5 4 c5)).run Try.prog w' = .ok (.string sU) w') (ds := []) #[false, false, false, false, false, false, false, false, false, false, false, false, false, false, false, false, false, false, false, false] (by kernel_rfl) rfl rfl ((by rw [HSU.out]; exact Kd.C_string Try.underlying24 Try.underlying5 Try.underlying9 (Kd.C_below HC5.out (below_drew HB.out)))) (fun hHeld => ?_)
    have n0_ := Aside0.mk (below_drew HB.out)
    have n1_ := Aside0.mk (sep_drew HS.out)
    clear HB HS
    have HB := n0_
    have HS := n1_
    clear n0_ n1_
    generalize (World.drew w4) = wd_ at HB HS hHeld ⊢
    refine pure_ (i := 0) (N := some 38) (v := ?_) (a' := ?_) #[true, false, false, false, false, false, false, false, false, false, false, false, false, false, false, false, false, false, false, false] rfl rfl (by kernel_rfl) (fun _ _ _ h => h) (Or.inl ⟨by rfl, ?_⟩) ?_ ?_
    rotate_left
    · intro w'
      go_simp
      with_reducible rfl
    rotate_left
    · simp only [Act.put, List.setIfInBounds_toArray, List.set_cons_zero, List.set_cons_succ, i64_w, i32_w]
      rfl
    refine pure_ (i := 1) (N := some 39) (v := ?_) (a' := ?_) #[true, true, false, false, false, false, false, false, false, false, false, false, false, false, false, false, false, false, false, false] rfl rfl (by kernel_rfl) (fun _ _ _ h => h) (Or.inl ⟨by rfl, ?_⟩) ?_ ?_
    rotate_left
    · intro w'
      go_simp
      with_reducible rfl
    rotate_left
    · simp only [Act.put, List.setIfInBounds_toArray, List.set_cons_zero, List.set_cons_succ, i64_w, i32_w]
      rfl
    refine pure_ (i := 2) (N := some 40) (v := ?_) (a' := ?_) #[true, true, true, false, false, false, false, false, false, false, false, false, false, false, false, false, false, false, false, false] rfl rfl (by kernel_rfl) (fun _ _ _ h => h) (Or.inl ⟨by rfl, ?_⟩) ?_ ?_
    rotate_left
    · intro w'
      go_simp
      with_reducible rfl
    rotate_left
    · simp only [Act.put, List.setIfInBounds_toArray, List.set_cons_zero, List.set_cons_succ, i64_w, i32_w]
      rfl
    refine pure_ (i := 3) (N := some 41) (v := ?_) (a' := ?_) #[true, true, true, true, false, false, false, false, false, false, false, false, false, false, false, false, false, false, false, false] rfl rfl (by kernel_rfl) (fun _ _ _ h => h) (Or.inl ⟨by rfl, ?_⟩) ?_ ?_
    rotate_left
    · intro w'
      go_simp
      with_reducible rfl
    rotate_left
    · simp only [Act.put, List.setIfInBounds_toArray, List.set_cons_zero, List.set_cons_succ, i64_w, i32_w]
      rfl
    refine pure_ (i := 4) (N := some 42) (v := ?_) (a' := ?_) #[true, true, true, true, true, false, false, false, false, false, false, false, false, false, false, false, false, false, false, false] rfl rfl (by kernel_rfl) (fun _ _ _ h => h) (Or.inl ⟨by rfl, ?_⟩) ?_ ?_
    rotate_left
    · intro w'
      go_simp
      with_reducible rfl
    rotate_left
    · simp only [Act.put, List.setIfInBounds_toArray, List.set_cons_zero, List.set_cons_succ, i64_w, i32_w]
      rfl
    refine pure_ (i := 6) (N := some 44) (v := ?_) (a' := ?_) #[true, true, true, true, true, false, true, false, false, false, false, false, false, false, false, false, false, false, false, false] rfl rfl (by kernel_rfl) (fun _ _ _ h => h) (Or.inl ⟨by rfl, ?_⟩) ?_ ?_
    rotate_left
    · intro w'
      go_simp
      with_reducible rfl
    rotate_left
    · simp only [Act.put, List.setIfInBounds_toArray, List.set_cons_zero, List.set_cons_succ, i64_w, i32_w]
      rfl
    refine pure_ (i := 7) (N := some 45) (v := ?_) (a' := ?_) #[true, true, true, true, true, false, true, true, false, false, false, false, false, false, false, false, false, false, false, false] rfl rfl (by kernel_rfl) (fun _ _ _ h => h) (Or.inl ⟨by rfl, ?_⟩) ?_ ?_
    rotate_left
    · intro w'
      go_simp
      with_reducible rfl
    rotate_left
    · simp only [Act.put, List.setIfInBounds_toArray, List.set_cons_zero, List.set_cons_succ, i64_w, i32_w]
      rfl
    refine pure_ (i := 8) (N := some 46) (v := ?_) (a' := ?_) #[true, true, true, true, true, false, true, true, true, false, false, false, false, false, false, false, false, false, false, false] rfl rfl (by kernel_rfl) (fun _ _ _ h => h) (Or.inl ⟨by rfl, ?_⟩) ?_ ?_
    rotate_left
    · intro w'
      go_simp
      with_reducible rfl
    rotate_left
    · simp only [Act.put, List.setIfInBounds_toArray, List.set_cons_zero, List.set_cons_succ, i64_w, i32_w]
      rfl
    refine pure_ (i := 9) (N := some 47) (v := ?_) (a' := ?_) #[true, true, true, true, true, false, true, true, true, true, false, false, false, false, false, false, false, false, false, false] rfl rfl (by kernel_rfl) (fun _ _ _ h => h) (Or.inl ⟨by rfl, ?_⟩) ?_ ?_
    rotate_left
    · intro w'
      go_simp
      with_reducible rfl
    rotate_left
    · simp only [Act.put, List.setIfInBounds_toArray, List.set_cons_zero, List.set_cons_succ, i64_w, i32_w]
      rfl
    refine pure_ (i := 10) (N := some 48) (v := ?_) (a' := ?_) #[true, true, true, true, true, false, true, true, true, true, true, false, false, false, false, false, false, false, false, false] rfl rfl (by kernel_rfl) (fun _ _ _ h => h) (Or.inl ⟨by rfl, ?_⟩) ?_ ?_
    rotate_left
    · intro w'
      go_simp
      with_reducible rfl
    rotate_left
    · simp only [Act.put, List.setIfInBounds_toArray, List.set_cons_zero, List.set_cons_succ, i64_w, i32_w]
      rfl
    refine pure_ (i := 11) (N := some 49) (v := ?_) (a' := ?_) #[true, true, true, true, true, false, true, true, true, true, true, true, false, false, false, false, false, false, false, false] rfl rfl (by kernel_rfl) (fun _ _ _ h => h) (Or.inl ⟨by rfl, ?_⟩) ?_ ?_
    rotate_left
    · intro w'
      go_simp
      with_reducible rfl
    rotate_left
    · simp only [Act.put, List.setIfInBounds_toArray, List.set_cons_zero, List.set_cons_succ, i64_w, i32_w]
      rfl
    refine pure_ (i := 12) (N := some 50) (v := ?_) (a' := ?_) #[true, true, true, true, true, false, true, true, true, true, true, true, true, false, false, false, false, false, false, false] rfl rfl (by kernel_rfl) (fun _ _ _ h => h) (Or.inl ⟨by rfl, ?_⟩) ?_ ?_
    rotate_left
    · intro w'
      go_simp
      with_reducible rfl
    rotate_left
    · simp only [Act.put, List.setIfInBounds_toArray, List.set_cons_zero, List.set_cons_succ, i64_w, i32_w]
      rfl
    refine pure_ (i := 13) (N := some 51) (v := ?_) (a' := ?_) #[true, true, true, true, true, false, true, true, true, true, true, true, true, true, false, false, false, false, false, false] rfl rfl (by kernel_rfl) (fun _ _ _ h => h) (Or.inl ⟨by rfl, ?_⟩) ?_ ?_
    rotate_left
    · intro w'
      go_simp
      with_reducible rfl
    rotate_left
    · simp only [Act.put, List.setIfInBounds_toArray, List.set_cons_zero, List.set_cons_succ, i64_w, i32_w]
      rfl
    refine pure_ (i := 14) (N := some 52) (v := ?_) (a' := ?_) #[true, true, true, true, true, false, true, true, true, true, true, true, true, true, true, false, false, false, false, false] rfl rfl (by kernel_rfl) (fun _ _ _ h => h) (Or.inl ⟨by rfl, ?_⟩) ?_ ?_
    rotate_left
    · intro w'
      go_simp
      with_reducible rfl
    rotate_left
    · simp only [Act.put, List.setIfInBounds_toArray, List.set_cons_zero, List.set_cons_succ, i64_w, i32_w]
      rfl
    refine pure_ (i := 15) (N := some 53) (v := ?_) (a' := ?_) #[true, true, true, true, true, false, true, true, true, true, true, true, true, true, true, true, false, false, false, false] rfl rfl (by kernel_rfl) (fun _ _ _ h => h) (Or.inl ⟨by rfl, ?_⟩) ?_ ?_
    rotate_left
    · intro w'
      go_simp
      with_reducible rfl
    rotate_left
    · simp only [Act.put, List.setIfInBounds_toArray, List.set_cons_zero, List.set_cons_succ, i64_w, i32_w]
      rfl
    refine pure_ (i := 16) (N := some 54) (v := ?_) (a' := ?_) #[true, true, true, true, true, false, true, true, true, true, true, true, true, true, true, true, true, false, false, false] rfl rfl (by kernel_rfl) (fun _ _ _ h => h) (Or.inl ⟨by rfl, ?_⟩) ?_ ?_
    rotate_left
    · intro w'
      go_simp
      with_reducible rfl
    rotate_left
    · simp only [Act.put, List.setIfInBounds_toArray, List.set_cons_zero, List.set_cons_succ, i64_w, i32_w]
      rfl
    refine take_ (i := 5) (N := some 43) (v := ?_) (a' := ?_) #[true, true, true, true, true, true, true, true, true, true, true, true, true, true, true, true, true, false, false, false] rfl rfl (by kernel_rfl) (fun _ _ _ h => h) (Or.inl ⟨by rfl, ?_⟩) hHeld ?_ ?_
    rotate_left
    · intro w' s0
      go_simp
      with_reducible rfl
    rotate_left
    · simp only [Act.put, List.setIfInBounds_toArray, List.set_cons_zero, List.set_cons_succ, i64_w, i32_w]
      rfl
    refine one_ (i := 17) (N := some 55) #[true, true, true, true, true, true, true, true, true, true, true, true, true, true, true, true, true, true, false, false] rfl rfl (by kernel_rfl) (by decide) (fun K hK => ?_)
    refine wp_lit_step (Kd.int .u8) (w0 := w) (N := 55) (by rfl) (by rfl) 5 ([(z3 : Int), (z2 : Int), (z1 : Int), (z0 : Int)]) [.int .u8 (z3 : Int), .int .u8 (z2 : Int), .int .u8 (z1 : Int), .int .u8 (z0 : Int)] (by first | (go_simp; done) | (go_simp; rfl)) (Reps.one rfl (Reps.one rfl (Reps.one rfl (Reps.one rfl (Reps.none _ _))))) (HS.out) HB.out (by simp) ?_; intro v_ w_ F_ hs_ hb_; clear HB HS; have HB := Aside0.mk hb_; have HS := Aside0.mk hs_; clear hs_ hb_; obtain ⟨A8, c8_, e_⟩ := Kd.R_slice (Sep.R HS.out); subst e_
    have hcv : (convert 24 9 (.slice A8 4 c8_)).run Try.prog w_ = .ok (.string sV) w_ := by rw [HSV.out, HV.out]; exact own_string (P := Try.prog) Try.underlying24 Try.underlying5 Try.underlying9 (Kd.own_of_R (Sep.R HS.out))
    refine hK.out _ _ ((by rw [HSU.out]; exact Kd.C_string Try.underlying24 Try.underlying5 Try.underlying9 (Kd.C_below HC5.out HB.out))) (fun hHeld => ?_)
    clear hK K
    refine norm_ (a' := ?_) ?_ ?_
    rotate_left
    · show Act.put _ (some 55) _ = _
      simp only [Act.put, List.setIfInBounds_toArray, List.set_cons_zero, List.set_cons_succ, i64_w, i32_w]
      rfl
    refine one_ (i := 18) (N := some 56) #[true, true, true, true, true, true, true, true, true, true, true, true, true, true, true, true, true, true, true, false] rfl rfl (by kernel_rfl) (by decide) (fun K hK => ?_)
    refine value_ (w1 := ?_) (v := ?_) (by rfl) rfl ?_ ?_
    rotate_left 2
    · go_simp
      constructor
      · rfl
      · rfl
    clear hcv
    refine hK.out _ _ ((by rw [HSU.out]; exact Kd.C_string Try.underlying24 Try.underlying5 Try.underlying9 (Kd.C_below HC5.out HB.out))) (fun hHeld => ?_)
    clear hK K
    refine norm_ (a' := ?_) ?_ ?_
    rotate_left
    · show Act.put _ (some 56) _ = _
      simp only [Act.put, List.setIfInBounds_toArray, List.set_cons_zero, List.set_cons_succ, i64_w, i32_w]
      rfl
    refine pure_ (i := 19) (N := some 57) (v := ?_) (a' := ?_) #[true, true, true, true, true, true, true, true, true, true, true, true, true, true, true, true, true, true, true, true] rfl rfl (by kernel_rfl) (fun _ _ _ h => h) (Or.inl ⟨by rfl, ?_⟩) ?_ ?_
    rotate_left
    · intro w'
      go_simp
      with_reducible rfl
    rotate_left
    · simp only [Act.put, List.setIfInBounds_toArray, List.set_cons_zero, List.set_cons_succ, i64_w, i32_w]
      rfl
    refine done_ (by kernel_rfl) ?_
    go_wp2
    clear HS
    have HS := Aside0.mk (Sep.nil w.heap.size w_)
    refine start_ (n := 15) (S := fun w' => True) (ds := []) #[false, false, false, false, false, false, false, false, false, false, false, false, false, false, false] (by kernel_rfl) rfl rfl trivial (fun hHeld => ?_)
    have n0_ := Aside0.mk (below_drew HB.out)
    have n1_ := Aside0.mk (sep_drew HS.out)
    clear HB HS
    have HB := n0_
    have HS := n1_
    clear n0_ n1_
    generalize (World.drew w_) = wd2_ at HB HS hHeld ⊢
    refine pure_ (i := 1) (N := some 59) (v := ?_) (a' := ?_) #[false, true, false, false, false, false, false, false, false, false, false, false, false, false, false] rfl rfl (by kernel_rfl) (fun _ _ _ h => h) (Or.inl ⟨by rfl, ?_⟩) ?_ ?_
    rotate_left
    · intro w'
      go_simp
      with_reducible rfl
    rotate_left
    · simp only [Act.put, List.setIfInBounds_toArray, List.set_cons_zero, List.set_cons_succ, i64_w, i32_w]
      rfl
    refine pure_ (i := 2) (N := some 60) (v := ?_) (a' := ?_) #[false, true, true, false, false, false, false, false, false, false, false, false, false, false, false] rfl rfl (by kernel_rfl) (fun _ _ _ h => h) (Or.inl ⟨by rfl, ?_⟩) ?_ ?_
    rotate_left
    · intro w'
      go_simp
      with_reducible rfl
    rotate_left
    · simp only [Act.put, List.setIfInBounds_toArray, List.set_cons_zero, List.set_cons_succ, i64_w, i32_w]
      rfl
    refine pure_ (i := 3) (N := some 61) (v := ?_) (a' := ?_) #[false, true, true, true, false, false, false, false, false, false, false, false, false, false, false] rfl rfl (by kernel_rfl) (fun _ _ _ h => h) (Or.inl ⟨by rfl, ?_⟩) ?_ ?_
    rotate_left
    · intro w'
      go_simp
      with_reducible rfl
    rotate_left
    · simp only [Act.put, List.setIfInBounds_toArray, List.set_cons_zero, List.set_cons_succ, i64_w, i32_w]
      rfl
    refine pure_ (i := 4) (N := some 62) (v := ?_) (a' := ?_) #[false, true, true, true, true, false, false, false, false, false, false, false, false, false, false] rfl rfl (by kernel_rfl) (fun _ _ _ h => h) (Or.inl ⟨by rfl, ?_⟩) ?_ ?_
    rotate_left
    · intro w'
      go_simp
      with_reducible rfl
    rotate_left
    · simp only [Act.put, List.setIfInBounds_toArray, List.set_cons_zero, List.set_cons_succ, i64_w, i32_w]
      rfl
    refine pure_ (i := 7) (N := some 65) (v := ?_) (a' := ?_) #[false, true, true, true, true, false, false, true, false, false, false, false, false, false, false] rfl rfl (by kernel_rfl) (fun _ _ _ h => h) (Or.inl ⟨by rfl, ?_⟩) ?_ ?_
    rotate_left
    · intro w'
      go_simp
      with_reducible rfl
    rotate_left
    · simp only [Act.put, List.setIfInBounds_toArray, List.set_cons_zero, List.set_cons_succ, i64_w, i32_w]
      rfl
    refine pure_ (i := 8) (N := some 66) (v := ?_) (a' := ?_) #[false, true, true, true, true, false, false, true, true, false, false, false, false, false, false] rfl rfl (by kernel_rfl) (fun _ _ _ h => h) (Or.inl ⟨by rfl, ?_⟩) ?_ ?_
    rotate_left
    · intro w'
      go_simp
      with_reducible rfl
    rotate_left
    · simp only [Act.put, List.setIfInBounds_toArray, List.set_cons_zero, List.set_cons_succ, i64_w, i32_w]
      rfl
    refine pure_ (i := 9) (N := some 67) (v := ?_) (a' := ?_) #[false, true, true, true, true, false, false, true, true, true, false, false, false, false, false] rfl rfl (by kernel_rfl) (fun _ _ _ h => h) (Or.inl ⟨by rfl, ?_⟩) ?_ ?_
    rotate_left
    · intro w'
      go_simp
      with_reducible rfl
    rotate_left
    · simp only [Act.put, List.setIfInBounds_toArray, List.set_cons_zero, List.set_cons_succ, i64_w, i32_w]
      rfl
    refine pure_ (i := 10) (N := some 68) (v := ?_) (a' := ?_) #[false, true, true, true, true, false, false, true, true, true, true, false, false, false, false] rfl rfl (by kernel_rfl) (fun _ _ _ h => h) (Or.inl ⟨by rfl, ?_⟩) ?_ ?_
    rotate_left
    · intro w'
      go_simp
      with_reducible rfl
    rotate_left
    · simp only [Act.put, List.setIfInBounds_toArray, List.set_cons_zero, List.set_cons_succ, i64_w, i32_w]
      rfl
    refine join_ (σ := Value × Value × Value) 4 #[true, true, true, true, true, true, true, true, true, true, true, false, false, false, false] (fun s => [(58, s.1), (63, s.2.1), (64, s.2.2)]) (fun s w' => Aside0 (∃ A63 c63 A64 c64 F63 F64, s.2.1 = .slice A63 x.length c63 ∧ s.2.2 = .slice A64 ([] : List Int).length c64 ∧ Sep w.heap.size w' [row F63 (Kd.int .u8) 5 w.heap.size (.slice A63 x.length c63) x, row F64 (Kd.int .u8) 5 w.heap.size (.slice A64 ([] : List Int).length c64) []] ∧ Below w.heap.size w w')) ?_ ?_
    rotate_left
    · intro hCont
      refine two_ (i := 0) (j := 6) (Ni := some 58) (Nj := some 64) #[true, true, true, true, true, false, false, true, true, true, true, false, false, false, false] #[false, true, true, true, true, false, true, true, true, true, true, false, false, false, false] rfl rfl rfl rfl (by kernel_rfl) (by decide) (by decide) (fun K hK => ?_) (fun K hK => ?_)
      · skip
        refine wp_lit_step (Kd.int .u8) (w0 := w) (N := 58) (by rfl) (by rfl) 5 (([] : List Int)) [] (by first | (go_simp; done) | (go_simp; rfl)) (Reps.none _ _) (HS.out) HB.out (by simp) ?_; intro v_ w_ F_ hs_ hb_; clear HB HS; have HB := Aside0.mk hb_; have HS := Aside0.mk hs_; clear hs_ hb_; obtain ⟨A58, c58, e_⟩ := Kd.R_slice (Sep.R HS.out); subst e_
        refine hK.out _ _ trivial (fun hHeld => ?_)
        clear hK K
        refine norm_ (a' := ?_) ?_ ?_
        rotate_left
        · show Act.put _ (some 58) _ = _
          simp only [Act.put, List.setIfInBounds_toArray, List.set_cons_zero, List.set_cons_succ, i64_w, i32_w]
          rfl
        refine two_ (i := 5) (j := 6) (Ni := some 63) (Nj := some 64) #[true, true, true, true, true, true, false, true, true, true, true, false, false, false, false] #[true, true, true, true, true, false, true, true, true, true, true, false, false, false, false] rfl rfl rfl rfl (by kernel_rfl) (by decide) (by decide) (fun K hK => ?_) (fun K hK => ?_)
        · skip
          refine wp_append_row_step (Kd.int .u8) (w0 := w) (by rfl) (.tmp 58) (.tmp 62) 24 5 (.int .u8 0) 1 (by rfl) Try.underlying24 info5 (by rfl) (by decide) (by decide) x A6 m c6 (HS.out) ((Kd.C_below HC6.out HB.out)) (fun _ _ h => h) HB.out (by exact HAL.out) (by rfl) (by rfl) ?_; intro v_ w_ F_ hs_ hb_; obtain ⟨O63, hy_⟩ : ∃ y_, y_ = ([] : List Int) ++ x := ⟨_, rfl⟩; rw [← hy_] at hs_; have HO63 := Aside0.mk hy_; clear hy_ HB HS; have HB := Aside0.mk hb_; have HS := Aside0.mk hs_; clear hb_ hs_; obtain ⟨A63, c63, e_⟩ := Kd.R_slice (Sep.R HS.out); subst e_
          have ho63 : x = O63 := by rw [HO63.out]; rfl
          clear HO63
          subst ho63
          refine hK.out _ _ trivial (fun hHeld => ?_)
          clear hK K
          refine norm_ (a' := ?_) ?_ ?_
          rotate_left
          · show Act.put _ (some 63) _ = _
            simp only [Act.put, List.setIfInBounds_toArray, List.set_cons_zero, List.set_cons_succ, i64_w, i32_w]
            rfl
          refine one_ (i := 6) (N := some 64) #[true, true, true, true, true, true, true, true, true, true, true, false, false, false, false] rfl rfl (by kernel_rfl) (by decide) (fun K hK => ?_)
          refine wp_lit_step (Kd.int .u8) (w0 := w) (N := 64) (by rfl) (by rfl) 5 (([] : List Int)) [] (by first | (go_simp; done) | (go_simp; rfl)) (Reps.none _ _) (HS.out) HB.out (by simp) ?_; intro v_ w_ F_ hs_ hb_; clear HB HS; have HB := Aside0.mk hb_; have HS := Aside0.mk hs_; clear hs_ hb_; obtain ⟨A64, c64, e_⟩ := Kd.R_slice (Sep.R HS.out); subst e_
          have n_ := HS.out.p2
          clear HS
          have HS := Aside0.mk n_
          clear n_
          refine hK.out _ _ trivial (fun hHeld => ?_)
          clear hK K
          refine norm_ (a' := ?_) ?_ ?_
          rotate_left
          · show Act.put _ (some 64) _ = _
            simp only [Act.put, List.setIfInBounds_toArray, List.set_cons_zero, List.set_cons_succ, i64_w, i32_w]
            rfl
          exact norm_ (by simp only [putAll, Act.put, List.setIfInBounds_toArray, List.set_cons_zero, List.set_cons_succ]) (hCont (.slice A58 ([] : List Int).length c58, .slice A63 x.length c63, .slice A64 ([] : List Int).length c64) _ ⟨A63, c63, A64, c64, _, _, rfl, rfl, HS.out, HB.out⟩)
        · skip
          refine wp_lit_step (Kd.int .u8) (w0 := w) (N := 64) (by rfl) (by rfl) 5 (([] : List Int)) [] (by first | (go_simp; done) | (go_simp; rfl)) (Reps.none _ _) (HS.out) HB.out (by simp) ?_; intro v_ w_ F_ hs_ hb_; clear HB HS; have HB := Aside0.mk hb_; have HS := Aside0.mk hs_; clear hs_ hb_; obtain ⟨A64, c64, e_⟩ := Kd.R_slice (Sep.R HS.out); subst e_
          have n_ := HS.out.p2
          clear HS
          have HS := Aside0.mk n_
          clear n_
          refine hK.out _ _ trivial (fun hHeld => ?_)
          clear hK K
          refine norm_ (a' := ?_) ?_ ?_
          rotate_left
          · show Act.put _ (some 64) _ = _
            simp only [Act.put, List.setIfInBounds_toArray, List.set_cons_zero, List.set_cons_succ, i64_w, i32_w]
            rfl
          refine one_ (i := 5) (N := some 63) #[true, true, true, true, true, true, true, true, true, true, true, false, false, false, false] rfl rfl (by kernel_rfl) (by decide) (fun K hK => ?_)
          refine wp_append_row_step (Kd.int .u8) (w0 := w) (by rfl) (.tmp 58) (.tmp 62) 24 5 (.int .u8 0) 1 (by rfl) Try.underlying24 info5 (by rfl) (by decide) (by decide) x A6 m c6 (HS.out) ((Kd.C_below HC6.out HB.out)) (fun _ _ h => h) HB.out (by exact HAL.out) (by rfl) (by rfl) ?_; intro v_ w_ F_ hs_ hb_; obtain ⟨O63, hy_⟩ : ∃ y_, y_ = ([] : List Int) ++ x := ⟨_, rfl⟩; rw [← hy_] at hs_; have HO63 := Aside0.mk hy_; clear hy_ HB HS; have HB := Aside0.mk hb_; have HS := Aside0.mk hs_; clear hb_ hs_; obtain ⟨A63, c63, e_⟩ := Kd.R_slice (Sep.R HS.out); subst e_
          have ho63 : x = O63 := by rw [HO63.out]; rfl
          clear HO63
          subst ho63
          refine hK.out _ _ trivial (fun hHeld => ?_)
          clear hK K
          refine norm_ (a' := ?_) ?_ ?_
          rotate_left
          · show Act.put _ (some 63) _ = _
            simp only [Act.put, List.setIfInBounds_toArray, List.set_cons_zero, List.set_cons_succ, i64_w, i32_w]
            rfl
          exact norm_ (by simp only [putAll, Act.put, List.setIfInBounds_toArray, List.set_cons_zero, List.set_cons_succ]) (hCont (.slice A58 ([] : List Int).length c58, .slice A63 x.length c63, .slice A64 ([] : List Int).length c64) _ ⟨A63, c63, A64, c64, _, _, rfl, rfl, HS.out, HB.out⟩)
      · skip
        refine wp_lit_step (Kd.int .u8) (w0 := w) (N := 64) (by rfl) (by rfl) 5 (([] : List Int)) [] (by first | (go_simp; done) | (go_simp; rfl)) (Reps.none _ _) (HS.out) HB.out (by simp) ?_; intro v_ w_ F_ hs_ hb_; clear HB HS; have HB := Aside0.mk hb_; have HS := Aside0.mk hs_; clear hs_ hb_; obtain ⟨A64, c64, e_⟩ := Kd.R_slice (Sep.R HS.out); subst e_
        refine hK.out _ _ trivial (fun hHeld => ?_)
        clear hK K
        refine norm_ (a' := ?_) ?_ ?_
        rotate_left
        · show Act.put _ (some 64) _ = _
          simp only [Act.put, List.setIfInBounds_toArray, List.set_cons_zero, List.set_cons_succ, i64_w, i32_w]
          rfl
        refine one_ (i := 0) (N := some 58) #[true, true, true, true, true, false, true, true, true, true, true, false, false, false, false] rfl rfl (by kernel_rfl) (by decide) (fun K hK => ?_)
        refine wp_lit_step (Kd.int .u8) (w0 := w) (N := 58) (by rfl) (by rfl) 5 (([] : List Int)) [] (by first | (go_simp; done) | (go_simp; rfl)) (Reps.none _ _) (HS.out) HB.out (by simp) ?_; intro v_ w_ F_ hs_ hb_; clear HB HS; have HB := Aside0.mk hb_; have HS := Aside0.mk hs_; clear hs_ hb_; obtain ⟨A58, c58, e_⟩ := Kd.R_slice (Sep.R HS.out); subst e_
        refine hK.out _ _ trivial (fun hHeld => ?_)
        clear hK K
        refine norm_ (a' := ?_) ?_ ?_
        rotate_left
        · show Act.put _ (some 58) _ = _
          simp only [Act.put, List.setIfInBounds_toArray, List.set_cons_zero, List.set_cons_succ, i64_w, i32_w]
          rfl
        refine one_ (i := 5) (N := some 63) #[true, true, true, true, true, true, true, true, true, true, true, false, false, false, false] rfl rfl (by kernel_rfl) (by decide) (fun K hK => ?_)
        refine wp_append_row_step (Kd.int .u8) (w0 := w) (by rfl) (.tmp 58) (.tmp 62) 24 5 (.int .u8 0) 1 (by rfl) Try.underlying24 info5 (by rfl) (by decide) (by decide) x A6 m c6 (HS.out) ((Kd.C_below HC6.out HB.out)) (fun _ _ h => h) HB.out (by exact HAL.out) (by rfl) (by rfl) ?_; intro v_ w_ F_ hs_ hb_; obtain ⟨O63, hy_⟩ : ∃ y_, y_ = ([] : List Int) ++ x := ⟨_, rfl⟩; rw [← hy_] at hs_; have HO63 := Aside0.mk hy_; clear hy_ HB HS; have HB := Aside0.mk hb_; have HS := Aside0.mk hs_; clear hb_ hs_; obtain ⟨A63, c63, e_⟩ := Kd.R_slice (Sep.R HS.out); subst e_
        have ho63 : x = O63 := by rw [HO63.out]; rfl
        clear HO63
        subst ho63
        refine hK.out _ _ trivial (fun hHeld => ?_)
        clear hK K
        refine norm_ (a' := ?_) ?_ ?_
        rotate_left
        · show Act.put _ (some 63) _ = _
          simp only [Act.put, List.setIfInBounds_toArray, List.set_cons_zero, List.set_cons_succ, i64_w, i32_w]
          rfl
        exact norm_ (by simp only [putAll, Act.put, List.setIfInBounds_toArray, List.set_cons_zero, List.set_cons_succ]) (hCont (.slice A58 ([] : List Int).length c58, .slice A63 x.length c63, .slice A64 ([] : List Int).length c64) _ ⟨A63, c63, A64, c64, _, _, rfl, rfl, HS.out, HB.out⟩)
    rintro ⟨v58, v63, v64⟩ w9 ⟨A63, c63, A64, c64, F63, F64, e63, e64, hs_, hb_⟩
    have hHeld : True := trivial
    clear HB HS
    have HB := Aside0.mk hb_
    have HS := Aside0.mk hs_
    dsimp only at e63 e64
    subst e63 e64
    clear hs_ hb_
    refine norm_ (a' := ?_) ?_ ?_
    rotate_left
    · simp only [putAll, Act.put, List.setIfInBounds_toArray, List.set_cons_zero, List.set_cons_succ]
      rfl
    refine one_ (i := 11) (N := some 69) #[true, true, true, true, true, true, true, true, true, true, true, true, false, false, false] rfl rfl (by kernel_rfl) (by decide) (fun K hK => ?_)
    refine wp_append_row_step (Kd.int .u8) (w0 := w) (by rfl) (.tmp 64) (.tmp 68) 24 5 (.int .u8 0) 1 (by rfl) Try.underlying24 info5 (by rfl) (by decide) (by decide) u A7 nu c7 (HS.out.p2) ((Kd.C_below HC7.out HB.out)) (fun _ _ h => h) HB.out (by exact HBL.out) (by rfl) (by rfl) ?_; intro v_ w_ F_ hs_ hb_; obtain ⟨O69, hy_⟩ : ∃ y_, y_ = ([] : List Int) ++ u := ⟨_, rfl⟩; rw [← hy_] at hs_; have HO69 := Aside0.mk hy_; clear hy_ HB HS; have HB := Aside0.mk hb_; have HS := Aside0.mk hs_; clear hb_ hs_; obtain ⟨A69, c69, e_⟩ := Kd.R_slice (Sep.R HS.out); subst e_
    have ho69 : u = O69 := by rw [HO69.out]; rfl
    clear HO69
    subst ho69
    refine hK.out _ _ trivial (fun hHeld => ?_)
    clear hK K
    refine norm_ (a' := ?_) ?_ ?_
    rotate_left
    · show Act.put _ (some 69) _ = _
      simp only [Act.put, List.setIfInBounds_toArray, List.set_cons_zero, List.set_cons_succ, i64_w, i32_w]
      rfl
    refine pure_ (i := 12) (N := some 2) (v := ?_) (a' := ?_) #[true, true, true, true, true, true, true, true, true, true, true, true, true, false, false] rfl rfl (by kernel_rfl) (fun _ _ _ h => h) (Or.inl ⟨by rfl, ?_⟩) ?_ ?_
    rotate_left
    · intro w'
      go_simp
      with_reducible rfl
    rotate_left
    · simp only [Act.put, List.setIfInBounds_toArray, List.set_cons_zero, List.set_cons_succ, i64_w, i32_w]
      rfl
    refine pure_ (i := 13) (N := some 3) (v := ?_) (a' := ?_) #[true, true, true, true, true, true, true, true, true, true, true, true, true, true, false] rfl rfl (by kernel_rfl) (fun _ _ _ h => h) (Or.inl ⟨by rfl, ?_⟩) ?_ ?_
    rotate_left
    · intro w'
      go_simp
      with_reducible rfl
    rotate_left
    · simp only [Act.put, List.setIfInBounds_toArray, List.set_cons_zero, List.set_cons_succ, i64_w, i32_w]
      rfl
    refine pure_ (i := 14) (N := some 4) (v := ?_) (a' := ?_) #[true, true, true, true, true, true, true, true, true, true, true, true, true, true, true] rfl rfl (by kernel_rfl) (fun _ _ _ h => h) (Or.inl ⟨by rfl, ?_⟩) ?_ ?_
    rotate_left
    · intro w'
      go_simp
      with_reducible rfl
    rotate_left
    · simp only [Act.put, List.setIfInBounds_toArray, List.set_cons_zero, List.set_cons_succ, i64_w, i32_w]
      rfl
    refine done_ (by kernel_rfl) ?_
    go_wp2
    go_ret3
    exact .inl ⟨HEQ.out, ⟨.slice A63 x.length c63, A69, c69, by rw [HE7.out]; first | rfl | simp, Kd.R_mono (Sep.R HS.out.drop) (fun _ _ => trivial)⟩, HB.out⟩
  · have c8 := bytes_ne heq
    have HEQ := Aside0.mk (show F5 ≠ footL (sumN (varint m ++ x)) by rw [← hs, hfoot, ← hV]; exact fun h => heq (hVU.2 h))
    rw [← hF5, ← hx, ← hu, e7]
    clear heq hVU hs hfoot hV hsV hsU hF5 hx e5 hu e7
    go_enter Try.func92, Try.ntmps92
    go_wp2_with (first
      | (go_at_call 73; ((with_reducible refine (onew_calls A0 c0 b _ (Kd.C_below HR.out HB.out) HC.out HL.out).mono ?_); rintro e w1 ⟨g, F1, A1, c1, rfl, hs_, hb⟩; have n1_ := Aside0.mk (Sep.join (by repeat (first | (with_reducible first | exact HS.out | apply sep_alloc | apply sep_drewN | apply sep_drew) | exact HS.out)) hb (below_size (by repeat (first | (with_reducible first | exact HB.out | apply below_alloc | apply pw_below_drewN | apply below_drew1) | exact HB.out))) hs_); have n0_ := Aside0.mk (below_step (by repeat (first | (with_reducible first | exact HB.out | apply below_alloc | apply pw_below_drewN | apply below_drew1) | exact HB.out)) hb); clear HB HS hs_ hb; have HB := n0_; have HS := n1_; clear n0_ n1_))
      | (go_at_call 74; ((with_reducible refine (num_yes m r HM.out g A1 c1 b HBR.out false w _ HB.out HS.out.own (Kd.R_reads' (Sep.R HS.out.drop)).2.2 (Kd.R_reads' (Sep.R HS.out.drop)).2.1 HBY.out HL.out).mono ?_); rintro e w2 ⟨A2, c2, rfl, hlc, hcd, ht⟩; rw [← HNR.out] at ht; clear hlc hcd; obtain ⟨F_, hs_⟩ := Turned.sep ht (HS.out) rfl; have n0_ := Aside0.mk (Turned.below ht); clear HB HS ht; have HB := n0_; have HS := Aside0.mk hs_; clear n0_ hs_))
      | (go_at_call 75; ((with_reducible refine (left_calls w.heap.size g A2 nr c2 false _ HS.out.own).mono ?_); rintro e w3 ⟨rfl, hb⟩; have n0_ := Aside0.mk (below_step (by repeat (first | (with_reducible first | exact HB.out | apply below_alloc | apply pw_below_drewN | apply below_drew1) | exact HB.out)) hb); have n1_ := Aside0.mk (Sep.below (by repeat (first | (with_reducible first | exact HS.out | apply sep_alloc | apply sep_drewN | apply sep_drew) | exact HS.out)) hb); clear HB HS; have HB := n0_; have HS := n1_; clear n0_ n1_ hb))
      | (go_at_call 107; ((with_reducible refine (sum_n A0 c0 q (b.take q) s _ HQL.out HQS.out (Kd.C_below HX1.out HB.out) HQB.out HQ6.out).mono ?_); rintro e w4 ⟨rfl, hb⟩; have n0_ := Aside0.mk (below_step (by repeat (first | (with_reducible first | exact HB.out | apply below_alloc | apply pw_below_drewN | apply below_drew1) | exact HB.out)) hb); have n1_ := Aside0.mk (Sep.below (by repeat (first | (with_reducible first | exact HS.out | apply sep_alloc | apply sep_drewN | apply sep_drew) | exact HS.out)) hb); clear HB HS; have HB := n0_; have HS := n1_; clear n0_ n1_ hb)))
    refine start_ (n := 20) (S := fun w' => (convert 24 9 (.slice A5 4 c5)).run Try.prog w' = .ok (.string sU) w') (ds := []) #[false, false, false, false, false, false, false, false, false, false, false, false, false, false, false, false, false, false, false, false] (by kernel_rfl) rfl rfl ((by rw [HSU.out]; exact Kd.C_string Try.underlying24 Try.underlying5 Try.underlying9 (Kd.C_below HC5.out (below_drew HB.out)))) (fun hHeld => ?_)
    have n0_ := Aside0.mk (below_drew HB.out)
    have n1_ := Aside0.mk (sep_drew HS.out)
    clear HB HS
    have HB := n0_
    have HS := n1_
    clear n0_ n1_
    generalize (World.drew w4) = wd_ at HB HS hHeld ⊢
    refine pure_ (i := 0) (N := some 38) (v := ?_) (a' := ?_) #[true, false, false, false, false, false, false, false, false, false, false, false, false, false, false, false, false, false, false, false] rfl rfl (by kernel_rfl) (fun _ _ _ h => h) (Or.inl ⟨by rfl, ?_⟩) ?_ ?_
    rotate_left
    · intro w'
      go_simp
      with_reducible rfl
    rotate_left
    · simp only [Act.put, List.setIfInBounds_toArray, List.set_cons_zero, List.set_cons_succ, i64_w, i32_w]
      rfl
    refine pure_ (i := 1) (N := some 39) (v := ?_) (a' := ?_) #[true, true, false, false, false, false, false, false, false, false, false, false, false, false, false, false, false, false, false, false] rfl rfl (by kernel_rfl) (fun _ _ _ h => h) (Or.inl ⟨by rfl, ?_⟩) ?_ ?_
    rotate_left
    · intro w'
      go_simp
      with_reducible rfl
    rotate_left
    · simp only [Act.put, List.setIfInBounds_toArray, List.set_cons_zero, List.set_cons_succ, i64_w, i32_w]
      rfl
    refine pure_ (i := 2) (N := some 40) (v := ?_) (a' := ?_) #[true, true, true, false, false, false, false, false, false, false, false, false, false, false, false, false, false, false, false, false] rfl rfl (by kernel_rfl) (fun _ _ _ h => h) (Or.inl ⟨by rfl, ?_⟩) ?_ ?_
    rotate_left
    · intro w'
      go_simp
      with_reducible rfl
    rotate_left
    · simp only [Act.put, List.setIfInBounds_toArray, List.set_cons_zero, List.set_cons_succ, i64_w, i32_w]
      rfl
    refine pure_ (i := 3) (N := some 41) (v := ?_) (a' := ?_) #[true, true, true, true, false, false, false, false, false, false, false, false, false, false, false, false, false, false, false, false] rfl rfl (by kernel_rfl) (fun _ _ _ h => h) (Or.inl ⟨by rfl, ?_⟩) ?_ ?_
    rotate_left
    · intro w'
      go_simp
      with_reducible rfl
    rotate_left
    · simp only [Act.put, List.setIfInBounds_toArray, List.set_cons_zero, List.set_cons_succ, i64_w, i32_w]
      rfl
    refine pure_ (i := 4) (N := some 42) (v := ?_) (a' := ?_) #[true, true, true, true, true, false, false, false, false, false, false, false, false, false, false, false, false, false, false, false] rfl rfl (by kernel_rfl) (fun _ _ _ h => h) (Or.inl ⟨by rfl, ?_⟩) ?_ ?_
    rotate_left
    · intro w'
      go_simp
      with_reducible rfl
    rotate_left
    · simp only [Act.put, List.setIfInBounds_toArray, List.set_cons_zero, List.set_cons_succ, i64_w, i32_w]
      rfl
    refine pure_ (i := 6) (N := some 44) (v := ?_) (a' := ?_) #[true, true, true, true, true, false, true, false, false, false, false, false, false, false, false, false, false, false, false, false] rfl rfl (by kernel_rfl) (fun _ _ _ h => h) (Or.inl ⟨by rfl, ?_⟩) ?_ ?_
    rotate_left
    · intro w'
      go_simp
      with_reducible rfl
    rotate_left
    · simp only [Act.put, List.setIfInBounds_toArray, List.set_cons_zero, List.set_cons_succ, i64_w, i32_w]
      rfl
    refine pure_ (i := 7) (N := some 45) (v := ?_) (a' := ?_) #[true, true, true, true, true, false, true, true, false, false, false, false, false, false, false, false, false, false, false, false] rfl rfl (by kernel_rfl) (fun _ _ _ h => h) (Or.inl ⟨by rfl, ?_⟩) ?_ ?_
    rotate_left
    · intro w'
      go_simp
      with_reducible rfl
    rotate_left
    · simp only [Act.put, List.setIfInBounds_toArray, List.set_cons_zero, List.set_cons_succ, i64_w, i32_w]
      rfl
    refine pure_ (i := 8) (N := some 46) (v := ?_) (a' := ?_) #[true, true, true, true, true, false, true, true, true, false, false, false, false, false, false, false, false, false, false, false] rfl rfl (by kernel_rfl) (fun _ _ _ h => h) (Or.inl ⟨by rfl, ?_⟩) ?_ ?_
    rotate_left
    · intro w'
      go_simp
      with_reducible rfl
    rotate_left
    · simp only [Act.put, List.setIfInBounds_toArray, List.set_cons_zero, List.set_cons_succ, i64_w, i32_w]
      rfl
    refine pure_ (i := 9) (N := some 47) (v := ?_) (a' := ?_) #[true, true, true, true, true, false, true, true, true, true, false, false, false, false, false, false, false, false, false, false] rfl rfl (by kernel_rfl) (fun _ _ _ h => h) (Or.inl ⟨by rfl, ?_⟩) ?_ ?_
    rotate_left
    · intro w'
      go_simp
      with_reducible rfl
    rotate_left
    · simp only [Act.put, List.setIfInBounds_toArray, List.set_cons_zero, List.set_cons_succ, i64_w, i32_w]
      rfl
    refine pure_ (i := 10) (N := some 48) (v := ?_) (a' := ?_) #[true, true, true, true, true, false, true, true, true, true, true, false, false, false, false, false, false, false, false, false] rfl rfl (by kernel_rfl) (fun _ _ _ h => h) (Or.inl ⟨by rfl, ?_⟩) ?_ ?_
    rotate_left
    · intro w'
      go_simp
      with_reducible rfl
    rotate_left
    · simp only [Act.put, List.setIfInBounds_toArray, List.set_cons_zero, List.set_cons_succ, i64_w, i32_w]
      rfl
    refine pure_ (i := 11) (N := some 49) (v := ?_) (a' := ?_) #[true, true, true, true, true, false, true, true, true, true, true, true, false, false, false, false, false, false, false, false] rfl rfl (by kernel_rfl) (fun _ _ _ h => h) (Or.inl ⟨by rfl, ?_⟩) ?_ ?_
    rotate_left
    · intro w'
      go_simp
      with_reducible rfl
    rotate_left
    · simp only [Act.put, List.setIfInBounds_toArray, List.set_cons_zero, List.set_cons_succ, i64_w, i32_w]
      rfl
    refine pure_ (i := 12) (N := some 50) (v := ?_) (a' := ?_) #[true, true, true, true, true, false, true, true, true, true, true, true, true, false, false, false, false, false, false, false] rfl rfl (by kernel_rfl) (fun _ _ _ h => h) (Or.inl ⟨by rfl, ?_⟩) ?_ ?_
    rotate_left
    · intro w'
      go_simp
      with_reducible rfl
    rotate_left
    · simp only [Act.put, List.setIfInBounds_toArray, List.set_cons_zero, List.set_cons_succ, i64_w, i32_w]
      rfl
    refine pure_ (i := 13) (N := some 51) (v := ?_) (a' := ?_) #[true, true, true, true, true, false, true, true, true, true, true, true, true, true, false, false, false, false, false, false] rfl rfl (by kernel_rfl) (fun _ _ _ h => h) (Or.inl ⟨by rfl, ?_⟩) ?_ ?_
    rotate_left
    · intro w'
      go_simp
      with_reducible rfl
    rotate_left
    · simp only [Act.put, List.setIfInBounds_toArray, List.set_cons_zero, List.set_cons_succ, i64_w, i32_w]
      rfl
    refine pure_ (i := 14) (N := some 52) (v := ?_) (a' := ?_) #[true, true, true, true, true, false, true, true, true, true, true, true, true, true, true, false, false, false, false, false] rfl rfl (by kernel_rfl) (fun _ _ _ h => h) (Or.inl ⟨by rfl, ?_⟩) ?_ ?_
    rotate_left
    · intro w'
      go_simp
      with_reducible rfl
    rotate_left
    · simp only [Act.put, List.setIfInBounds_toArray, List.set_cons_zero, List.set_cons_succ, i64_w, i32_w]
      rfl
    refine pure_ (i := 15) (N := some 53) (v := ?_) (a' := ?_) #[true, true, true, true, true, false, true, true, true, true, true, true, true, true, true, true, false, false, false, false] rfl rfl (by kernel_rfl) (fun _ _ _ h => h) (Or.inl ⟨by rfl, ?_⟩) ?_ ?_
    rotate_left
    · intro w'
      go_simp
      with_reducible rfl
    rotate_left
    · simp only [Act.put, List.setIfInBounds_toArray, List.set_cons_zero, List.set_cons_succ, i64_w, i32_w]
      rfl
    refine pure_ (i := 16) (N := some 54) (v := ?_) (a' := ?_) #[true, true, true, true, true, false, true, true, true, true, true, true, true, true, true, true, true, false, false, false] rfl rfl (by kernel_rfl) (fun _ _ _ h => h) (Or.inl ⟨by rfl, ?_⟩) ?_ ?_
    rotate_left
    · intro w'
      go_simp
      with_reducible rfl
    rotate_left
    · simp only [Act.put, List.setIfInBounds_toArray, List.set_cons_zero, List.set_cons_succ, i64_w, i32_w]
      rfl
    refine take_ (i := 5) (N := some 43) (v := ?_) (a' := ?_) #[true, true, true, true, true, true, true, true, true, true, true, true, true, true, true, true, true, false, false, false] rfl rfl (by kernel_rfl) (fun _ _ _ h => h) (Or.inl ⟨by rfl, ?_⟩) hHeld ?_ ?_
    rotate_left
    · intro w' s0
      go_simp
      with_reducible rfl
    rotate_left
    · simp only [Act.put, List.setIfInBounds_toArray, List.set_cons_zero, List.set_cons_succ, i64_w, i32_w]
      rfl
    refine one_ (i := 17) (N := some 55) #[true, true, true, true, true, true, true, true, true, true, true, true, true, true, true, true, true, true, false, false] rfl rfl (by kernel_rfl) (by decide) (fun K hK => ?_)
    refine wp_lit_step (Kd.int .u8) (w0 := w) (N := 55) (by rfl) (by rfl) 5 ([(z3 : Int), (z2 : Int), (z1 : Int), (z0 : Int)]) [.int .u8 (z3 : Int), .int .u8 (z2 : Int), .int .u8 (z1 : Int), .int .u8 (z0 : Int)] (by first | (go_simp; done) | (go_simp; rfl)) (Reps.one rfl (Reps.one rfl (Reps.one rfl (Reps.one rfl (Reps.none _ _))))) (HS.out) HB.out (by simp) ?_; intro v_ w_ F_ hs_ hb_; clear HB HS; have HB := Aside0.mk hb_; have HS := Aside0.mk hs_; clear hs_ hb_; obtain ⟨A8, c8_, e_⟩ := Kd.R_slice (Sep.R HS.out); subst e_
    have hcv : (convert 24 9 (.slice A8 4 c8_)).run Try.prog w_ = .ok (.string sV) w_ := by rw [HSV.out, HV.out]; exact own_string (P := Try.prog) Try.underlying24 Try.underlying5 Try.underlying9 (Kd.own_of_R (Sep.R HS.out))
    refine hK.out _ _ ((by rw [HSU.out]; exact Kd.C_string Try.underlying24 Try.underlying5 Try.underlying9 (Kd.C_below HC5.out HB.out))) (fun hHeld => ?_)
    clear hK K
    refine norm_ (a' := ?_) ?_ ?_
    rotate_left
    · show Act.put _ (some 55) _ = _
      simp only [Act.put, List.setIfInBounds_toArray, List.set_cons_zero, List.set_cons_succ, i64_w, i32_w]
      rfl
    refine one_ (i := 18) (N := some 56) #[true, true, true, true, true, true, true, true, true, true, true, true, true, true, true, true, true, true, true, false] rfl rfl (by kernel_rfl) (by decide) (fun K hK => ?_)
    refine value_ (w1 := ?_) (v := ?_) (by rfl) rfl ?_ ?_
    rotate_left 2
    · go_simp
      constructor
      · rfl
      · rfl
    clear hcv
    refine hK.out _ _ ((by rw [HSU.out]; exact Kd.C_string Try.underlying24 Try.underlying5 Try.underlying9 (Kd.C_below HC5.out HB.out))) (fun hHeld => ?_)
    clear hK K
    refine norm_ (a' := ?_) ?_ ?_
    rotate_left
    · show Act.put _ (some 56) _ = _
      simp only [Act.put, List.setIfInBounds_toArray, List.set_cons_zero, List.set_cons_succ, i64_w, i32_w]
      rfl
    refine pure_ (i := 19) (N := some 57) (v := ?_) (a' := ?_) #[true, true, true, true, true, true, true, true, true, true, true, true, true, true, true, true, true, true, true, true] rfl rfl (by kernel_rfl) (fun _ _ _ h => h) (Or.inl ⟨by rfl, ?_⟩) ?_ ?_
    rotate_left
    · intro w'
      go_simp
      with_reducible rfl
    rotate_left
    · simp only [Act.put, List.setIfInBounds_toArray, List.set_cons_zero, List.set_cons_succ, i64_w, i32_w]
      rfl
    refine done_ (by kernel_rfl) ?_
    go_wp2
    go_ret3
    exact .inr ⟨HEQ.out, rfl, HB.out⟩
/-- seal.Take: opens what is sealed, and no other. -/
theorem unseal_calls (A0 : Option Addr) (c0 : Nat) (b : List Int) (w : World) (hr0 : Kd.C (Kd.int .u8) w A0 b.length b) (hc0 : b.length ≤ c0) (hby : Byt b) (hl : b.length < 1000000) :
    Calls Try.prog 92 #[.slice A0 b.length c0] w fun e w' =>
      (∃ x r v1 A2 c2, b = sealL x ++ r ∧ e = .returned (.tuple #[v1, .slice A2 r.length c2, .int .i64 0]) ∧ Kd.R (Kd.int .u8) 5 w' w.heap.size (fun _ => True) v1 x ∧ Below w.heap.size w w') ∨
      ((∀ x r, b ≠ sealL x ++ r) ∧ e = .returned (.tuple #[.slice none 0 0, .slice none 0 0, .int .i64 6]) ∧ Below w.heap.size w w') := by
  by_cases hex : ∃ (m : Nat) (r : List Int), m < 2 ^ 64 ∧ b = varint m ++ r
  · obtain ⟨m, r, hm, hbr⟩ := hex
    by_cases hmr : m + 4 ≤ r.length
    · refine (unseal_at A0 c0 b w hr0 hc0 hby hl m r hbr hmr).mono ?_
      rintro e w' (⟨h1, ⟨v1, A2, c2, h2, h3⟩, h4⟩ | ⟨h1, h2, h3⟩)
      · exact .inl ⟨_, _, v1, A2, c2, by rw [hbr]; exact seal_made hmr h1, h2, h3, h4⟩
      · exact .inr ⟨fun x t he => seal_other h1 x t (hbr ▸ he), h2, h3⟩
    · refine (unseal_no A0 c0 b w hr0 hc0 hby hl (.inr ⟨m, r, hm, hbr, by omega⟩)).mono ?_
      rintro e w' ⟨h1, h2⟩
      exact .inr ⟨fun x t he => seal_short (m := m) (r := r) (by omega) x t (hbr ▸ he), h1, h2⟩
  · refine (unseal_no A0 c0 b w hr0 hc0 hby hl (.inl fun m r hm he => hex ⟨m, r, hm, he⟩)).mono ?_
    rintro e w' ⟨h1, h2⟩
    refine .inr ⟨fun x t he => hex ⟨x.length, x ++ (footL (sumN (varint x.length ++ x)) ++ t), ?_, ?_⟩, h1, h2⟩
    · have := congrArg List.length he
      unfold sealL at this
      simp only [List.length_append] at this
      omega
    · rw [he]
      unfold sealL
      rw [List.append_assoc, List.append_assoc]
theorem unseal_made (A0 : Option Addr) (c0 n : Nat) (b x r : List Int) (w : World) (hn : b.length = n) (hb : b = sealL x ++ r) (hr0 : Kd.C (Kd.int .u8) w A0 b.length b) (hc0 : n ≤ c0) (hby : Byt b) (hl : n < 1000000) :
    Calls Try.prog 92 #[.slice A0 n c0] w fun e w' => ∃ v1 A2 c2, e = .returned (.tuple #[v1, .slice A2 r.length c2, .int .i64 0]) ∧ Kd.R (Kd.int .u8) 5 w' w.heap.size (fun _ => True) v1 x ∧ Below w.heap.size w w' := by
  subst hn
  refine (unseal_calls A0 c0 b w hr0 hc0 hby hl).mono ?_
  rintro e w' (⟨x1, r1, v1, A2, c2, h1, h2, h3, h4⟩ | ⟨h1, _⟩)
  · obtain ⟨rfl, rfl⟩ := seal_inj (hb.symm.trans h1)
    exact ⟨v1, A2, c2, h2, h3, h4⟩
  · exact absurd hb (h1 x r)
theorem unseal_none (A0 : Option Addr) (c0 n : Nat) (b : List Int) (w : World) (hn : b.length = n) (hb : ∀ x r, b ≠ sealL x ++ r) (hr0 : Kd.C (Kd.int .u8) w A0 b.length b) (hc0 : n ≤ c0) (hby : Byt b) (hl : n < 1000000) :
    Calls Try.prog 92 #[.slice A0 n c0] w fun e w' => e = .returned (.tuple #[.slice none 0 0, .slice none 0 0, .int .i64 6]) ∧ Below w.heap.size w w' := by
  subst hn
  refine (unseal_calls A0 c0 b w hr0 hc0 hby hl).mono ?_
  rintro e w' (⟨x1, r1, v1, A2, c2, h1, _⟩ | ⟨_, h2⟩)
  · exact absurd h1 (hb x1 r1)
  · exact h2
end Go.Proofs.Ythkpnnbjcendcaa.Sc
end
section
/- Blocks taken: plain laws. -/
set_option linter.unusedVariables false
set_option linter.unusedSimpArgs false
open Go.RowKit Go.Proofs.Ythkpnnbjcendcaa.X Go.Proofs.Ythkpnnbjcendcaa.Pl Go.Proofs.YthkpnnbjcendcaaW.PrintWords Go.Proofs.YthkpnnbjcendcaaW.PrintLast Go.Proofs.YthkpnnbjcendcaaW.PrintMore
namespace Go.Proofs.Ythkpnnbjcendcaa.Pure
/-- What is known of a chunk that has been read. -/
structure EOk (c : S109) : Prop where
  id0 : 0 ≤ c.f0
  id1 : c.f0 < 4096
  fit : fitP c.f1
  put : putR c.f1 = (putB c.f1, 0)
theorem putR_B {l : List S52} {b : List Int} (h : putR l = (b, 0)) : putR l = (putB l, 0) ∧ b = putB l ∧ l.length ≤ 1024 := by
  have hp : putR l = if l.length > 1024 then ([], 3) else if rightB l = false then ([], 1) else (putB l, 0) := rfl
  by_cases h1 : l.length > 1024
  · rw [hp, if_pos h1] at h
    injection h with _ h; exact absurd h (by decide)
  · rw [if_neg h1] at hp
    by_cases h2 : rightB l = false
    · rw [hp, if_pos h2] at h
      injection h with _ h; exact absurd h (by decide)
    · rw [if_neg h2] at hp
      rw [hp] at h
      injection h with h _
      exact ⟨hp, h.symm, by omega⟩
theorem OkC.eok {c : S109} (h : OkC c) (hf : fitP c.f1) : EOk c := ⟨h.id0, h.id1, hf, putR_ok h⟩
theorem chB_app (c : S109) (r : List Int) : chB c ++ r = varint c.f0.toNat ++ (varint (putB c.f1).length ++ (putB c.f1 ++ r)) := by
  unfold chB
  rw [List.append_assoc, List.append_assoc]
theorem chB_inj {c d : S109} {r s : List Int} (hc : EOk c) (hd : EOk d) (h : chB c ++ r = chB d ++ s) : c = d ∧ r = s := by
  rw [chB_app, chB_app] at h
  obtain ⟨h1, h⟩ := varint_inj _ _ _ _ h
  obtain ⟨h2, h⟩ := varint_inj _ _ _ _ h
  obtain ⟨h3, h4⟩ := List.append_inj h h2
  refine ⟨?_, h4⟩
  have h5 := put_inj hc.fit hd.fit hc.put (h3 ▸ hd.put)
  have h6 : c.f0 = d.f0 := by have := hc.id0; have := hd.id0; omega
  cases c; cases d
  simp only at h5 h6
  rw [h5, h6]
theorem flat_inj : ∀ (l k : List S109) (r s : List Int), l.length = k.length → (∀ c ∈ l, EOk c) → (∀ c ∈ k, EOk c) → l.flatMap chB ++ r = k.flatMap chB ++ s → l = k ∧ r = s
  | [], [], r, s, _, _, _, h => ⟨rfl, by simpa using h⟩
  | [], d :: k, r, s, hl, _, _, _ => by simp at hl
  | c :: l, [], r, s, hl, _, _, _ => by simp at hl
  | c :: l, d :: k, r, s, hl, hc, hd, h => by
    rw [List.flatMap_cons, List.flatMap_cons, List.append_assoc, List.append_assoc] at h
    obtain ⟨rfl, h2⟩ := chB_inj (hc c List.mem_cons_self) (hd d List.mem_cons_self) h
    obtain ⟨rfl, rfl⟩ := flat_inj l k r s (by simpa using hl) (fun e he => hc e (List.mem_cons_of_mem _ he)) (fun e he => hd e (List.mem_cons_of_mem _ he)) h2
    exact ⟨rfl, rfl⟩
def fitL (l : List S109) : Prop := ∀ c ∈ l, fitP c.f1
open Classical in
/-- The chunks that would be put so. -/
noncomputable def btakeR (b : List Int) : List S109 × Int := if h : ∃ l, fitL l ∧ bputR l = (b, 0) then (h.choose, 0) else ([], 90)
theorem bput_right {l : List S109} {b : List Int} (h : bputR l = (b, 0)) : rightC l = true ∧ b = sealL (bodyC l) := by
  unfold bputR at h
  split at h
  · rename_i hr
    injection h with h _
    exact ⟨hr, h.symm⟩
  · injection h with _ h; exact absurd h (by decide)
theorem bput_of {l : List S109} (h : rightC l = true) : bputR l = (sealL (bodyC l), 0) := by unfold bputR; rw [if_pos h]
theorem right_eok {l : List S109} (h : rightC l = true) (hf : fitL l) : ∀ c ∈ l, EOk c := fun c hc => ((rightC_all h).1 c hc).eok (hf c hc)
theorem body_inj {l k : List S109} (hl : ∀ c ∈ l, EOk c) (hk : ∀ c ∈ k, EOk c) (h : bodyC l = bodyC k) : l = k := by
  unfold bodyC at h
  obtain ⟨h1, h2⟩ := varint_inj _ _ _ _ h
  exact (flat_inj l k [] [] h1 hl hk (by rw [h2])).1
theorem bput_inj {l k : List S109} {b : List Int} (hl : fitL l) (hk : fitL k) (h1 : bputR l = (b, 0)) (h2 : bputR k = (b, 0)) : l = k := by
  obtain ⟨r1, e1⟩ := bput_right h1
  obtain ⟨r2, e2⟩ := bput_right h2
  have h := seal_inj (x := bodyC l) (y := bodyC k) (r := []) (s := []) (by rw [← e1, ← e2])
  exact body_inj (right_eok r1 hl) (right_eok r2 hk) h.1
theorem btake_put {l : List S109} {b : List Int} (hl : fitL l) (h : bputR l = (b, 0)) : btakeR b = (l, 0) := by
  have hex : ∃ l, fitL l ∧ bputR l = (b, 0) := ⟨l, hl, h⟩
  unfold btakeR
  rw [dif_pos hex, bput_inj hex.choose_spec.1 hl hex.choose_spec.2 h]
theorem btake_no {b : List Int} (h : ∀ l, fitL l → bputR l ≠ (b, 0)) : btakeR b = ([], 90) := by
  unfold btakeR
  rw [dif_neg]
  rintro ⟨l, h1, h2⟩
  exact h l h1 h2
/-- Not sealed. -/
theorem btake_open {b : List Int} (h : ∀ x r, b ≠ sealL x ++ r) : btakeR b = ([], 90) := btake_no fun l _ hp => h (bodyC l) [] (by rw [List.append_nil]; exact (bput_right hp).2)
/-- Something behind the seal. -/
theorem btake_over {x r : List Int} (h : r ≠ []) : btakeR (sealL x ++ r) = ([], 90) := btake_no fun l _ hp => h (seal_inj (y := bodyC l) (s := []) (by rw [List.append_nil]; exact (bput_right hp).2)).2
theorem btake_body {x : List Int} (h : ∀ l, fitL l → rightC l = true → bodyC l ≠ x) : btakeR (sealL x) = ([], 90) := btake_no fun l hf hp => by
  obtain ⟨hr, he⟩ := bput_right hp
  exact h l hf hr (seal_inj (r := []) (s := []) (by rw [List.append_nil, List.append_nil]; exact he.symm)).1
/-- No number at the head. -/
theorem body_none {x : List Int} (h : ∀ n r, n < 2 ^ 64 → x ≠ varint n ++ r) (l : List S109) (hr : rightC l = true) : bodyC l ≠ x := fun he => h l.length (l.flatMap chB) (by have := (rightC_all hr).2.2; omega) (by rw [← he]; rfl)
/-- Too many. -/
theorem body_many {n : Nat} {r : List Int} (h : 200 < n) (l : List S109) (hr : rightC l = true) : bodyC l ≠ varint n ++ r := fun he => by
  have h1 := (varint_inj _ _ _ _ he).1
  have := (rightC_all hr).2.2
  omega
/-- The chunk that comes next is none. -/
theorem body_stop {n : Nat} {r : List Int} {k : List S109} (hk : ∀ c ∈ k, EOk c) (hn : k.length < n) (h : ∀ c r', EOk c → r ≠ chB c ++ r') (l : List S109) (hf : fitL l) (hr : rightC l = true) : bodyC l ≠ varint n ++ (k.flatMap chB ++ r) := fun he => by
  obtain ⟨h1, h2⟩ := varint_inj _ _ _ _ he
  have hl := right_eok hr hf
  have hkl : k.length < l.length := by omega
  have hs : l = l.take k.length ++ l[k.length] :: l.drop (k.length + 1) := by rw [List.getElem_cons_drop, List.take_append_drop]
  have h3 : (l.take k.length).flatMap chB ++ (chB l[k.length] ++ (l.drop (k.length + 1)).flatMap chB) = k.flatMap chB ++ r := by
    rw [← h2]
    conv => rhs; rw [hs]
    rw [List.flatMap_append, List.flatMap_cons]
  obtain ⟨_, h4⟩ := flat_inj _ _ _ _ (by rw [List.length_take]; omega) (fun c hc => hl c (List.mem_of_mem_take hc)) hk h3
  exact h _ _ (hl _ (List.getElem_mem hkl)) h4.symm
/-- All chunks read. -/
theorem body_end {n : Nat} {r : List Int} {k : List S109} (hk : ∀ c ∈ k, EOk c) (hn : k.length = n) (l : List S109) (hf : fitL l) (hr : rightC l = true) (he : bodyC l = varint n ++ (k.flatMap chB ++ r)) : l = k ∧ r = [] := by
  obtain ⟨h1, h2⟩ := varint_inj _ _ _ _ he
  obtain ⟨h3, h4⟩ := flat_inj l k [] r (by omega) (right_eok hr hf) hk (by rw [List.append_nil]; exact h2)
  exact ⟨h3, h4.symm⟩
/-! ### One chunk -/
theorem next_num {r : List Int} (h : ∀ m s, m < 2 ^ 64 → r ≠ varint m ++ s) : ∀ c r', EOk c → r ≠ chB c ++ r' := fun c r' hc he => h _ _ (by have := hc.id1; omega) (he.trans (chB_app c r'))
theorem next_big {m : Nat} {r : List Int} (h : 4096 ≤ m) : ∀ c r', EOk c → varint m ++ r ≠ chB c ++ r' := fun c r' hc he => by
  rw [chB_app] at he
  have h1 := (varint_inj _ _ _ _ he).1
  have := hc.id1
  omega
theorem putB_len64 {c : S109} (h : EOk c) : (putB c.f1).length < 2 ^ 64 := by
  have := putB_len (putR_B h.put).2.2
  omega
theorem next_text {m : Nat} {r : List Int} (h : ∀ k s, k < 2 ^ 64 → r = varint k ++ s → s.length < k) : ∀ c r', EOk c → varint m ++ r ≠ chB c ++ r' := fun c r' hc he => by
  rw [chB_app] at he
  have h2 := h _ _ (putB_len64 hc) (varint_inj _ _ _ _ he).2
  rw [List.length_append] at h2
  omega
theorem next_bad {m k : Nat} {s : List Int} (h : (takeR (s.take k)).2 ≠ 0) : ∀ c r', EOk c → varint m ++ (varint k ++ s) ≠ chB c ++ r' := fun c r' hc he => by
  rw [chB_app] at he
  obtain ⟨rfl, h3⟩ := varint_inj _ _ _ _ (varint_inj _ _ _ _ he).2
  rw [h3, List.take_left, take_put hc.fit hc.put] at h
  exact h rfl
theorem next_good {m k : Nat} {s : List Int} {ps : List S52} (hm : m < 4096) (hk : k ≤ s.length) (h : takeR (s.take k) = (ps, 0)) : EOk ⟨(m : Int), ps⟩ ∧ varint m ++ (varint k ++ s) = chB ⟨(m : Int), ps⟩ ++ s.drop k := by
  have h1 := take_ok (b := s.take k) (by rw [h])
  rw [h] at h1
  obtain ⟨h2, h3, h4⟩ := putR_B h1.2
  refine ⟨⟨by simp, by simp; omega, h1.1, h2⟩, ?_⟩
  rw [chB_app]
  simp only [Int.toNat_natCast]
  rw [← h3, List.take_append_drop, List.length_take, Nat.min_eq_left hk]
theorem btake_stop {n : Nat} {r x : List Int} {k : List S109} (hx : x = varint n ++ (k.flatMap chB ++ r)) (hk : ∀ c ∈ k, EOk c) (hn : k.length < n) (h : ∀ c r', EOk c → r ≠ chB c ++ r') : btakeR (sealL x) = ([], 90) :=
  btake_body fun l hf hr => hx ▸ body_stop hk hn h l hf hr
theorem btake_end {n : Nat} {r x : List Int} {k : List S109} (hx : x = varint n ++ (k.flatMap chB ++ r)) (hk : ∀ c ∈ k, EOk c) (hn : k.length = n) : btakeR (sealL x) = if r = [] ∧ rightC k = true then (k, 0) else ([], 90) := by
  split
  · rename_i hc
    obtain ⟨rfl, hr⟩ := hc
    refine btake_put (fun c hc => (hk c hc).fit) ?_
    rw [bput_of hr, hx, ← hn, List.append_nil]
    rfl
  · rename_i hc
    refine btake_body fun l hf hr he => hc ?_
    obtain ⟨h1, h2⟩ := body_end hk hn l hf hr (he.trans hx)
    exact ⟨h2, h1 ▸ hr⟩
theorem eok_len {c : S109} (h : EOk c) : c.f1.length < 1000000000 := by have := (putR_B h.put).2.2; omega
end Go.Proofs.Ythkpnnbjcendcaa.Pure
end
section
/- block.Take, walked. -/
set_option linter.unusedVariables false
set_option linter.unusedSimpArgs false
open Go.RowKit Go.Proofs.Ythkpnnbjcendcaa.X Go.Proofs.Ythkpnnbjcendcaa.Pl Go.Proofs.Ythkpnnbjcendcaa.Sp Go.Proofs.Ythkpnnbjcendcaa.Pure Go.Proofs.YthkpnnbjcendcaaW.PrintWords Go.Proofs.YthkpnnbjcendcaaW.PrintLast Go.Proofs.YthkpnnbjcendcaaW.PrintMore
namespace Go.Proofs.Ythkpnnbjcendcaa.Sc
/-- The bytes of a text, made. -/
theorem bytes_C (W : World) (t : List Int) (s : ByteArray) (hs : s = strOfNums t) (hb : Byt t) (hl : t.length < 1000000) : s.size = t.length ∧ Kd.C (Kd.int .u8) (Lib.bytesWorld W 5 s) (some ⟨W.heap.size, 0, none⟩) t.length t := by
  subst hs
  have h1 : (strOfNums t).size = t.length := by rw [← bytesOf_length, bytesOf_str hb]
  have h2 := bytes_reads W 5 (strOfNums t) (by omega)
  rw [bytesOf_str hb, h1] at h2
  exact ⟨h1, Kd.C_of_reads (enc := Value.int .u8) (d := (0 : Int)) (h1 := fun _ => rfl) h2⟩
theorem onew_n (A0 : Option Addr) (c0 n : Nat) (b : List Int) (w : World) (hn : b.length = n) (hr0 : Kd.C (Kd.int .u8) w A0 b.length b) (hc0 : n ≤ c0) (hl : n < 1000000) :
    Calls Try.prog 73 #[.slice A0 n c0] w fun e w' => ∃ g F A c, e = .returned (.pointer (some ⟨g, 0, none⟩)) ∧ Sep w.heap.size w' [otR g (.slice A b.length c) false, row F (Kd.int .u8) 5 w.heap.size (.slice A b.length c) b] ∧ Below w.heap.size w w' := by
  subst hn
  exact onew_calls A0 c0 b w hr0 hc0 hl
theorem rowR {α : Type} {d : Kd α} {e b1 b2 : Nat} {v : Value} {xs : List α} {w : World} {F : Nat → Prop} {rs : List Res} (h : Sep b1 w (row F d e b2 v xs :: rs)) : d.R e w b2 F v xs := h.now
/-- What block.Take answers. -/
def TakeN (l : List S109) (z : Int) (w : World) (e : Ending) (w' : World) : Prop := ∃ v, e = .returned (.tuple #[v, .int .i64 z]) ∧ Kd.N k109 109 w' w.heap.size (fun k => w.heap.size ≤ k) v l ∧ Below w.heap.size w w'
set_option maxHeartbeats 16000000 in
set_option maxRecDepth 100000 in
theorem btake_bad (A0 : Option Addr) (c0 : Nat) (b : List Int) (w : World) (hr0 : Kd.C (Kd.int .u8) w A0 b.length b) (hc0 : b.length ≤ c0) (hby : Byt b) (hl : b.length < 1000000)
    (hno : (∀ x r, b ≠ sealL x ++ r) ∨ (∃ x r, b = sealL x ++ r ∧ r ≠ []) ∨ (∃ n s, n < 2 ^ 64 ∧ 200 < n ∧ b = sealL (varint n ++ s)) ∨ (∃ x, b = sealL x ∧ ∀ m r, m < 2 ^ 64 → x ≠ varint m ++ r)) :
    Calls Try.prog 59 #[.slice A0 b.length c0] w fun e w' => TakeN [] 90 w e w' := by
  have HB := Aside0.mk (Below.refl w.heap.size w)
  have HS := Aside0.mk (Sep.nil w.heap.size w)
  have HR := Aside0.mk hr0
  have HC := Aside0.mk hc0
  have HBY := Aside0.mk hby
  have HL := Aside0.mk hl
  clear hr0 hc0 hby hl
  rcases hno with hno | ⟨x, r, hb, hr⟩ | ⟨n, s, hn, hn2, hb⟩ | ⟨x, hb, hno⟩
  · have HNO := Aside0.mk hno
    clear hno
    go_enter Try.func59, Try.ntmps59
    go_wp2_with (first
      | (go_at_call 92; ((with_reducible refine (unseal_none A0 c0 b.length b _ rfl HNO.out (Kd.C_below HR.out HB.out) HC.out HBY.out HL.out).mono ?_); rintro e w1 ⟨rfl, hb⟩; have n0_ := Aside0.mk (below_step (by repeat (first | (with_reducible first | exact HB.out | apply below_alloc | apply pw_below_drewN | apply below_drew1) | exact HB.out)) hb); have n1_ := Aside0.mk (Sep.below (by repeat (first | (with_reducible first | exact HS.out | apply sep_alloc | apply sep_drewN | apply sep_drew) | exact HS.out)) hb); clear HB HS; have HB := n0_; have HS := n1_; clear n0_ n1_ hb)))
    go_ret2
    exact ⟨_, rfl, Kd.N_nil _ _ _ _ _, HB.out⟩
  · have HBX := Aside0.mk hb
    obtain ⟨nr, hnr⟩ : ∃ n, n = r.length := ⟨_, rfl⟩
    have hpos : 0 < nr := by rw [hnr]; exact List.length_pos_iff.2 hr
    have HNR := Aside0.mk hnr
    have c1b : decide ((0 : Int) < (nr : Int)) = true := decide_eq_true (by omega)
    have c1n : decide (0 < nr) = true := decide_eq_true hpos
    clear hb hr hnr hpos
    go_enter Try.func59, Try.ntmps59
    go_wp2_with (first
      | (go_at_call 92; ((with_reducible refine (unseal_made A0 c0 b.length b x r _ rfl HBX.out (Kd.C_below HR.out HB.out) HC.out HBY.out HL.out).mono ?_); rintro e w1 ⟨v1, A2, c2, rfl, ho, hb⟩; rw [← HNR.out]; obtain ⟨A1, c1, e_⟩ := Kd.R_slice ho; subst e_; obtain ⟨F1, hs_⟩ := Sep.newrow (by repeat (first | (with_reducible first | exact HS.out | apply sep_alloc | apply sep_drewN | apply sep_drew) | exact HS.out)) hb (below_size (by repeat (first | (with_reducible first | exact HB.out | apply below_alloc | apply pw_below_drewN | apply below_drew1) | exact HB.out))) ho; have n0_ := Aside0.mk (below_step (by repeat (first | (with_reducible first | exact HB.out | apply below_alloc | apply pw_below_drewN | apply below_drew1) | exact HB.out)) hb); clear HB HS hb ho; have HB := n0_; have HS := Aside0.mk hs_; clear n0_ hs_)))
    go_ret2
    exact ⟨_, rfl, Kd.N_nil _ _ _ _ _, HB.out⟩
  · obtain ⟨x, hx⟩ : ∃ x, x = varint n ++ s := ⟨_, rfl⟩
    rw [← hx] at hb
    have HX := Aside0.mk hx
    have HBX := Aside0.mk (show b = sealL x ++ [] by rw [List.append_nil]; exact hb)
    have HN64 := Aside0.mk hn
    have HXB := Aside0.mk (show Byt x from fun y hy => HBY.out y (by rw [hb]; unfold sealL; exact List.mem_append_left _ (List.mem_append_right _ hy)))
    have HXL := Aside0.mk (show x.length < 1000000 by
      have := HL.out
      rw [hb] at this
      unfold sealL at this
      simp only [List.length_append] at this
      omega)
    have c1b : decide ((200 : Int) < (n : Int)) = true := decide_eq_true (by omega)
    have c1n : decide (200 < n) = true := decide_eq_true hn2
    clear hb hn hn2 hx
    go_enter Try.func59, Try.ntmps59
    go_wp2_with (first
      | (go_at_call 92; ((with_reducible refine (unseal_made A0 c0 b.length b x [] _ rfl HBX.out (Kd.C_below HR.out HB.out) HC.out HBY.out HL.out).mono ?_); rintro e w1 ⟨v1, A2, c2, rfl, ho, hb⟩; obtain ⟨A1, c1, e_⟩ := Kd.R_slice ho; subst e_; obtain ⟨F1, hs_⟩ := Sep.newrow (by repeat (first | (with_reducible first | exact HS.out | apply sep_alloc | apply sep_drewN | apply sep_drew) | exact HS.out)) hb (below_size (by repeat (first | (with_reducible first | exact HB.out | apply below_alloc | apply pw_below_drewN | apply below_drew1) | exact HB.out))) ho; have n0_ := Aside0.mk (below_step (by repeat (first | (with_reducible first | exact HB.out | apply below_alloc | apply pw_below_drewN | apply below_drew1) | exact HB.out)) hb); clear HB HS hb ho; have HB := n0_; have HS := Aside0.mk hs_; clear n0_ hs_))
      | (go_at_call 73; ((with_reducible refine (onew_n A1 c1 x.length x _ rfl (Kd.R_reads' (Sep.R HS.out)).2.2 (Kd.R_reads' (Sep.R HS.out)).2.1 HXL.out).mono ?_); rintro e w2 ⟨g, F3, A3, c3, rfl, hs_, hb⟩; have n1_ := Aside0.mk (Sep.join (by repeat (first | (with_reducible first | exact HS.out | apply sep_alloc | apply sep_drewN | apply sep_drew) | exact HS.out)) hb (below_size (by repeat (first | (with_reducible first | exact HB.out | apply below_alloc | apply pw_below_drewN | apply below_drew1) | exact HB.out))) hs_); have n0_ := Aside0.mk (below_step (by repeat (first | (with_reducible first | exact HB.out | apply below_alloc | apply pw_below_drewN | apply below_drew1) | exact HB.out)) hb); clear HB HS hs_ hb; have HB := n0_; have HS := n1_; clear n0_ n1_))
      | (go_at_call 74; ((with_reducible refine (num_yes n s HN64.out g A3 c3 x HX.out false w _ HB.out HS.out.own (Kd.R_reads' (rowR HS.out.drop)).2.2 (Kd.R_reads' (rowR HS.out.drop)).2.1 HXB.out HXL.out).mono ?_); rintro e w3 ⟨A4, c4, rfl, hlc, hcd, ht⟩; clear hlc hcd; obtain ⟨F_, hs_⟩ := Turned.sep ht (HS.out) rfl; have n0_ := Aside0.mk (Turned.below ht); clear HB HS ht; have HB := n0_; have HS := Aside0.mk hs_; clear n0_ hs_)))
    go_ret2
    exact ⟨_, rfl, Kd.N_nil _ _ _ _ _, HB.out⟩
  · have HNO := Aside0.mk hno
    have HBX := Aside0.mk (show b = sealL x ++ [] by rw [List.append_nil]; exact hb)
    have HXB := Aside0.mk (show Byt x from fun y hy => HBY.out y (by rw [hb]; unfold sealL; exact List.mem_append_left _ (List.mem_append_right _ hy)))
    have HXL := Aside0.mk (show x.length < 1000000 by
      have := HL.out
      rw [hb] at this
      unfold sealL at this
      simp only [List.length_append] at this
      omega)
    clear hb hno
    go_enter Try.func59, Try.ntmps59
    go_wp2_with (first
      | (go_at_call 92; ((with_reducible refine (unseal_made A0 c0 b.length b x [] _ rfl HBX.out (Kd.C_below HR.out HB.out) HC.out HBY.out HL.out).mono ?_); rintro e w1 ⟨v1, A2, c2, rfl, ho, hb⟩; obtain ⟨A1, c1, e_⟩ := Kd.R_slice ho; subst e_; obtain ⟨F1, hs_⟩ := Sep.newrow (by repeat (first | (with_reducible first | exact HS.out | apply sep_alloc | apply sep_drewN | apply sep_drew) | exact HS.out)) hb (below_size (by repeat (first | (with_reducible first | exact HB.out | apply below_alloc | apply pw_below_drewN | apply below_drew1) | exact HB.out))) ho; have n0_ := Aside0.mk (below_step (by repeat (first | (with_reducible first | exact HB.out | apply below_alloc | apply pw_below_drewN | apply below_drew1) | exact HB.out)) hb); clear HB HS hb ho; have HB := n0_; have HS := Aside0.mk hs_; clear n0_ hs_))
      | (go_at_call 73; ((with_reducible refine (onew_n A1 c1 x.length x _ rfl (Kd.R_reads' (Sep.R HS.out)).2.2 (Kd.R_reads' (Sep.R HS.out)).2.1 HXL.out).mono ?_); rintro e w2 ⟨g, F3, A3, c3, rfl, hs_, hb⟩; have n1_ := Aside0.mk (Sep.join (by repeat (first | (with_reducible first | exact HS.out | apply sep_alloc | apply sep_drewN | apply sep_drew) | exact HS.out)) hb (below_size (by repeat (first | (with_reducible first | exact HB.out | apply below_alloc | apply pw_below_drewN | apply below_drew1) | exact HB.out))) hs_); have n0_ := Aside0.mk (below_step (by repeat (first | (with_reducible first | exact HB.out | apply below_alloc | apply pw_below_drewN | apply below_drew1) | exact HB.out)) hb); clear HB HS hs_ hb; have HB := n0_; have HS := n1_; clear n0_ n1_))
      | (go_at_call 74; ((with_reducible refine (num_no g A3 c3 x HNO.out false w _ HB.out HS.out.own (Kd.R_reads' (rowR HS.out.drop)).2.2 (Kd.R_reads' (rowR HS.out.drop)).2.1 HXB.out HXL.out).mono ?_); rintro e w3 ⟨rfl, ht⟩; obtain ⟨F_, hs_⟩ := Turned.sep ht (HS.out) rfl; have n0_ := Aside0.mk (Turned.below ht); clear HB HS ht; have HB := n0_; have HS := Aside0.mk hs_; clear n0_ hs_)))
    go_loopg [9, 10, 11, 12, 33] 0 (fun kq v9 v10 v11 v12 v33 w' => v33 = .int .u64 0 ∧ Aside0 (Sep w.heap.size w' [otR g (.slice none 0 0) true]) ∧ Aside0 (Below w.heap.size w w'))
    case atStart => exact ⟨rfl, ⟨HS.out.own, (fun q hq => by cases hq), trivial⟩, HB⟩
    case round =>
      clear HS HB
      obtain ⟨rfl, HS, HB⟩ := hrel
      go_wp2_with (first
        | (go_at_call 76; ((with_reducible refine (end_named w.heap.size g none 0 0 true 6 _ (by simp) HS.out.own).mono ?_); rintro e w4 ⟨rfl, hb⟩; have n0_ := Aside0.mk (below_step (by repeat (first | (with_reducible first | exact HB.out | apply below_alloc | apply pw_below_drewN | apply below_drew1) | exact HB.out)) hb); have n1_ := Aside0.mk (Sep.below (by repeat (first | (with_reducible first | exact HS.out | apply sep_alloc | apply sep_drewN | apply sep_drew) | exact HS.out)) hb); clear HB HS; have HB := n0_; have HS := n1_; clear n0_ n1_ hb)))
      go_ret2
      exact ⟨_, rfl, Kd.N_nil _ _ _ _ _, HB.out⟩
theorem byt_nil : Byt [] := fun y hy => by cases hy
theorem pts_FK {base c : Nat} {w : World} {G : Nat → Prop} {A : Option Addr} {ps : List S52} (h : Own base w (ptsR G A ps.length ps)) (m : Int) (hc : ps.length ≤ c) : Kd.FK k109 w G ⟨m, ps⟩ [.int .i64 m, .slice A ps.length c] :=
  k109_mkF w G ⟨m, ps⟩ hc (fun W2 hW => h.tell W2 (fun k hk => hW k hk (h.hi k hk)))
/-- A row stays where only the taker is turned. -/
theorem row_stay {base g : Nat} {w w2 : World} {F3 : Nat → Prop} {b1 : Nat} {A : Option Addr} {n c : Nat} {x : List Int} {v : Value} {bad : Bool} {rs : List Res} (h : Sep base w (otR g v bad :: row F3 (Kd.int .u8) 5 b1 (.slice A n c) x :: rs)) (hs : Stay w w2 (fun k => k = g)) : Kd.C (Kd.int .u8) w2 A x.length x :=
  (Kd.R_reads' (show Kd.R (Kd.int .u8) 5 w2 b1 F3 (.slice A n c) x from (h.drop.own.kept hs (fun k hk he => h.apart _ List.mem_cons_self g rfl (he ▸ hk))).now)).2.2
set_option maxHeartbeats 32000000 in
set_option maxRecDepth 100000 in
theorem btake_main (A0 : Option Addr) (c0 : Nat) (b : List Int) (w : World) (hr0 : Kd.C (Kd.int .u8) w A0 b.length b) (hc0 : b.length ≤ c0) (hby : Byt b) (hl : b.length < 1000000)
    (n : Nat) (r0 : List Int) (hn : n ≤ 200) (hb : b = sealL (varint n ++ r0)) (l : List S109) (z : Int) (hlz : btakeR b = (l, z)) :
    Calls Try.prog 59 #[.slice A0 b.length c0] w fun e w' => TakeN l z w e w' := by
  have HB := Aside0.mk (Below.refl w.heap.size w)
  have HS := Aside0.mk (Sep.nil w.heap.size w)
  have HR := Aside0.mk hr0
  have HC := Aside0.mk hc0
  have HBY := Aside0.mk hby
  have HL := Aside0.mk hl
  have HLZ := Aside0.mk hlz
  obtain ⟨x, hx⟩ : ∃ x, x = varint n ++ r0 := ⟨_, rfl⟩
  rw [← hx] at hb
  have HX := Aside0.mk hx
  have HBS := Aside0.mk hb
  have HBX := Aside0.mk (show b = sealL x ++ [] by rw [List.append_nil]; exact hb)
  have HN64 := Aside0.mk (show n < 2 ^ 64 by omega)
  have HN := Aside0.mk hn
  have HXB := Aside0.mk (show Byt x from fun y hy => HBY.out y (by rw [hb]; unfold sealL; exact List.mem_append_left _ (List.mem_append_right _ hy)))
  have HXL := Aside0.mk (show x.length < 1000000 by
    have := HL.out
    rw [hb] at this
    unfold sealL at this
    simp only [List.length_append] at this
    omega)
  have c1b : decide ((200 : Int) < (n : Int)) = false := decide_eq_false (by omega)
  have c1n : decide (200 < n) = false := decide_eq_false (by omega)
  clear hb hn hx hlz hl hby hc0 hr0
  go_enter Try.func59, Try.ntmps59
  go_wp2_with (first
    | (go_at_call 92; ((with_reducible refine (unseal_made A0 c0 b.length b x [] _ rfl HBX.out (Kd.C_below HR.out HB.out) HC.out HBY.out HL.out).mono ?_); rintro e w1 ⟨v1, A2, c2, rfl, ho, hb⟩; obtain ⟨A1, c1, e_⟩ := Kd.R_slice ho; subst e_; obtain ⟨F1, hs_⟩ := Sep.newrow (by repeat (first | (with_reducible first | exact HS.out | apply sep_alloc | apply sep_drewN | apply sep_drew) | exact HS.out)) hb (below_size (by repeat (first | (with_reducible first | exact HB.out | apply below_alloc | apply pw_below_drewN | apply below_drew1) | exact HB.out))) ho; have n0_ := Aside0.mk (below_step (by repeat (first | (with_reducible first | exact HB.out | apply below_alloc | apply pw_below_drewN | apply below_drew1) | exact HB.out)) hb); clear HB HS hb ho; have HB := n0_; have HS := Aside0.mk hs_; clear n0_ hs_))
    | (go_at_call 73; ((with_reducible refine (onew_n A1 c1 x.length x _ rfl (Kd.R_reads' (Sep.R HS.out)).2.2 (Kd.R_reads' (Sep.R HS.out)).2.1 HXL.out).mono ?_); rintro e w2 ⟨g, F3, A3, c3, rfl, hs_, hb⟩; have n1_ := Aside0.mk (Sep.join (by repeat (first | (with_reducible first | exact HS.out | apply sep_alloc | apply sep_drewN | apply sep_drew) | exact HS.out)) hb (below_size (by repeat (first | (with_reducible first | exact HB.out | apply below_alloc | apply pw_below_drewN | apply below_drew1) | exact HB.out))) hs_); have n0_ := Aside0.mk (below_step (by repeat (first | (with_reducible first | exact HB.out | apply below_alloc | apply pw_below_drewN | apply below_drew1) | exact HB.out)) hb); clear HB HS hs_ hb; have HB := n0_; have HS := n1_; clear n0_ n1_))
    | (go_at_call 74; ((with_reducible refine (num_yes n r0 HN64.out g A3 c3 x HX.out false w _ HB.out HS.out.own (Kd.R_reads' (rowR HS.out.drop)).2.2 (Kd.R_reads' (rowR HS.out.drop)).2.1 HXB.out HXL.out).mono ?_); rintro e w3 ⟨A4, c4, rfl, hlc, hcd, ht⟩; have HLC := Aside0.mk hlc; have HCD := Aside0.mk hcd; clear hlc hcd; obtain ⟨F_, hs_⟩ := Turned.sep ht (HS.out) rfl; have n0_ := Aside0.mk (Turned.below ht); clear HB HS ht; have HB := n0_; have HS := Aside0.mk hs_; clear n0_ hs_)))
  have n0_ := HS.out.drop3
  clear HS
  have HS := Aside0.mk (n0_.nilN k109 109)
  clear n0_
  go_loopg [9, 10, 11, 12, 33] n (fun kq v9 v10 v11 v12 v33 w' => ∃ (i : Nat) (O : List S109) (F : Nat → Prop) (A' : Option Addr) (c' : Nat) (r : List Int), v33 = .int .u64 (i : Int) ∧
    Aside0 (kq + i = n ∧ O.length = i ∧ x = varint n ++ (O.flatMap chB ++ r) ∧ (∀ c ∈ O, EOk c) ∧ r.length ≤ c' ∧ (∀ w2, Kd.C (Kd.int .u8) w2 A3 x.length x → Kd.C (Kd.int .u8) w2 A' r.length r)) ∧
    Aside0 (Sep w.heap.size w' [rowN F k109 109 w.heap.size v9 O, otR g (.slice A' r.length c') false, row F3 (Kd.int .u8) 5 w1.heap.size (.slice A3 x.length c3) x]) ∧ Aside0 (Below w.heap.size w w'))
  case atStart => exact ⟨0, [], _, A4, c4, r0, rfl, ⟨by omega, rfl, by rw [HX.out]; simp, by simp, HLC.out, HCD.out⟩, HS, HB⟩
  case round =>
    clear HS HB HLC HCD
    obtain ⟨i, O, F, A', c', r, rfl, HI, HS, HB⟩ := hrel
    obtain ⟨A9, c9, e9, hl9, _⟩ := Kd.N_reads HS.out.N
    subst e9
    have HL9 := Aside0.mk hl9
    clear hl9
    by_cases hlt : i < n
    · obtain ⟨k1, rfl⟩ : ∃ q, gk = q + 1 := ⟨gk - 1, by have := HI.out.1; omega⟩
      have d1b : decide ((i : Int) < (n : Int)) = true := decide_eq_true (by omega)
      have d1n : decide (i < n) = true := decide_eq_true hlt
      have hnx : IntKind.u64.wrap ((i : Int) + 1) = ((i + 1 : Nat) : Int) := by have := HN.out; rw [w_u64 (by omega) (by omega)]; simp
      have HXI := Aside0.mk hnx
      have HKN := Aside0.mk (show O.length < n by have := HI.out.2.1; omega)
      have HRB := Aside0.mk (show Byt r from byt_app (a := O.flatMap chB) (byt_app (a := varint n) (HI.out.2.2.1 ▸ HXB.out)))
      have HRL := Aside0.mk (show r.length < 1000000 by
        have := HXL.out
        rw [HI.out.2.2.1, List.length_append, List.length_append] at this
        omega)
      clear hlt hnx
      by_cases hex : ∃ (m : Nat) (r1 : List Int), m < 2 ^ 64 ∧ r = varint m ++ r1
      · obtain ⟨m, r1, hm, hr1⟩ := hex
        have HM := Aside0.mk hm
        have HR1 := Aside0.mk hr1
        have HRB1 := Aside0.mk (show Byt r1 from byt_app (a := varint m) (hr1 ▸ HRB.out))
        have HRL1 := Aside0.mk (show r1.length < 1000000 by
          have := HRL.out
          rw [hr1, List.length_append] at this
          omega)
        by_cases hex2 : ∃ (k : Nat) (s : List Int), k < 2 ^ 64 ∧ r1 = varint k ++ s ∧ k ≤ s.length
        · obtain ⟨k, s, hk, hs, hks⟩ := hex2
          have HK := Aside0.mk hk
          have HS1 := Aside0.mk hs
          have HKS := Aside0.mk hks
          obtain ⟨t, ht⟩ : ∃ t, t = s.take k := ⟨_, rfl⟩
          obtain ⟨u, hu⟩ : ∃ u, u = s.drop k := ⟨_, rfl⟩
          have HT := Aside0.mk ht
          have HU := Aside0.mk hu
          have HTB := Aside0.mk (show Byt t from by rw [ht]; exact fun y hy => byt_app (a := varint k) (hs ▸ HRB1.out) y (List.mem_of_mem_take hy))
          have HTLN := Aside0.mk (show t.length < 1000000 by
            have := HRL1.out
            rw [hs, List.length_append] at this
            rw [ht, List.length_take]
            omega)
          obtain ⟨⟨ps, z1⟩, hps⟩ : ∃ p, p = takeR t := ⟨_, rfl⟩
          have HTK := Aside0.mk hps.symm
          obtain ⟨sT, hsT⟩ : ∃ s, s = strOfNums t := ⟨_, rfl⟩
          have HSTX := Aside0.mk hsT
          have kb := fun W => print_bytes (P := Try.prog) 9 24 5 Try.underlying9 Try.underlying24 Try.underlying5 sT W
          have hz := take_two t
          rw [← hps] at hz
          clear hm hr1 hk hs hks ht hu hps hsT
          rcases hz with hz | ⟨hz, hz2⟩
          · have hz : z1 = 0 := hz
            subst hz
            by_cases hbig : 4096 ≤ m
            · have e1b : decide ((m : Int) < 4096) = false := decide_eq_false (by omega)
              have e1n : decide (m < 4096) = false := decide_eq_false (by omega)
              have e2b : decide ((4096 : Int) ≤ (m : Int)) = true := decide_eq_true (by omega)
              have e2n : decide (4096 ≤ m) = true := decide_eq_true (by omega)
              have hl := HLZ.out
              rw [HBS.out, btake_stop HI.out.2.2.1 HI.out.2.2.2.1 HKN.out (HR1.out ▸ next_big hbig)] at hl
              injection hl with h1 h2
              subst h1 h2
              clear hbig
              go_wp2_with (first
                | (go_at_call 74; ((with_reducible refine (num_yes m r1 HM.out g A' c' r HR1.out false w _ HB.out (Sep.own HS.out.p2) (HI.out.2.2.2.2.2 _ (Kd.R_reads' (rowR HS.out.drop.drop)).2.2) HI.out.2.2.2.2.1 HRB.out HRL.out).mono ?_); rintro e w4 ⟨A6, c6, rfl, hlc, hcd, ht⟩; have HLC := Aside0.mk hlc; have HCD := Aside0.mk hcd; clear hlc hcd; obtain ⟨F_, hs_⟩ := Turned.sep ht (HS.out.p2) rfl; have n0_ := Aside0.mk (Turned.below ht); clear HB HS ht; have HB := n0_; have HS := Aside0.mk hs_; clear n0_ hs_; have n_ := HS.out.p2; clear HS; have HS := Aside0.mk n_; clear n_))
                | (go_at_call 93; ((with_reducible refine (otx_yes k s t u HK.out g A6 c6 r1 HS1.out HKS.out HT.out HU.out false w _ HB.out (Sep.own HS.out.p2) (fun w2 h2 => HCD.out w2 (HI.out.2.2.2.2.2 w2 (row_stay HS.out.drop h2))) HLC.out HRB1.out HRL1.out).mono ?_); rintro e w5 ⟨A7, c7, rfl, hlc, hcd, ht⟩; rw [← HSTX.out]; have HLC7 := Aside0.mk hlc; have HCD7 := Aside0.mk hcd; clear hlc hcd; obtain ⟨F_, hs_⟩ := Turned.sep ht (HS.out.p2) rfl; have n0_ := Aside0.mk (Turned.below ht); clear HB HS ht; have HB := n0_; have HS := Aside0.mk hs_; clear n0_ hs_; have n_ := HS.out.p2; clear HS; have HS := Aside0.mk n_; clear n_))
                | (go_at_call 41; (have ht_ := bytes_C w5 t sT HSTX.out HTB.out HTLN.out); (rw [ht_.1]); (have n0_ := Aside0.mk (bytes_below HB.out HB.out.size 5 sT)); (have n1_ := Aside0.mk (Sep.below HS.out (bytes_below (Below.refl _ _) (Nat.le_refl _) 5 sT))); clear HB HS; (have HB := n0_); (have HS := n1_); clear n0_ n1_; (refine (stake_own _ _ t _ _ _ ht_.2 (grownCap_ge _ _ _ _) HTB.out HTLN.out HTK.out).mono ?_); (rintro e w7 ⟨A5, c5, rfl, _, hl5, ⟨G5, ho5⟩, hb⟩); (have n1_ := Aside0.mk (Sep.new HS.out hb (ho5.lower HB.out.size) ho5.lo)); (have n0_ := Aside0.mk (below_step HB.out hb)); clear HB HS hb ho5; have HB := n0_; have HS := n1_; clear n0_ n1_ ht_))
              go_ret2
              exact ⟨_, rfl, Kd.N_nil _ _ _ _ _, HB.out⟩
            · have e1b : decide ((m : Int) < 4096) = true := decide_eq_true (by omega)
              have e1n : decide (m < 4096) = true := decide_eq_true (by omega)
              have e2b : decide ((4096 : Int) ≤ (m : Int)) = false := decide_eq_false (by omega)
              have e2n : decide (4096 ≤ m) = false := decide_eq_false (by omega)
              have hmw : wrap64 (m : Int) = (m : Int) := wid (by omega)
              have HAL := Aside0.mk (show (O.length + 1) * 32 ≤ 140737488355328 by have := HKN.out; have := HN.out; omega)
              have HG := Aside0.mk (next_good (m := m) (k := k) (s := s) (by omega) HKS.out (by rw [← HT.out]; exact HTK.out))
              clear hbig
              go_wp2_with (first
                | (go_at_call 74; ((with_reducible refine (num_yes m r1 HM.out g A' c' r HR1.out false w _ HB.out (Sep.own HS.out.p2) (HI.out.2.2.2.2.2 _ (Kd.R_reads' (rowR HS.out.drop.drop)).2.2) HI.out.2.2.2.2.1 HRB.out HRL.out).mono ?_); rintro e w4 ⟨A6, c6, rfl, hlc, hcd, ht⟩; have HLC := Aside0.mk hlc; have HCD := Aside0.mk hcd; clear hlc hcd; obtain ⟨F_, hs_⟩ := Turned.sep ht (HS.out.p2) rfl; have n0_ := Aside0.mk (Turned.below ht); clear HB HS ht; have HB := n0_; have HS := Aside0.mk hs_; clear n0_ hs_; have n_ := HS.out.p2; clear HS; have HS := Aside0.mk n_; clear n_))
                | (go_at_call 93; ((with_reducible refine (otx_yes k s t u HK.out g A6 c6 r1 HS1.out HKS.out HT.out HU.out false w _ HB.out (Sep.own HS.out.p2) (fun w2 h2 => HCD.out w2 (HI.out.2.2.2.2.2 w2 (row_stay HS.out.drop h2))) HLC.out HRB1.out HRL1.out).mono ?_); rintro e w5 ⟨A7, c7, rfl, hlc, hcd, ht⟩; rw [← HSTX.out]; have HLC7 := Aside0.mk hlc; have HCD7 := Aside0.mk hcd; clear hlc hcd; obtain ⟨F_, hs_⟩ := Turned.sep ht (HS.out.p2) rfl; have n0_ := Aside0.mk (Turned.below ht); clear HB HS ht; have HB := n0_; have HS := Aside0.mk hs_; clear n0_ hs_; have n_ := HS.out.p2; clear HS; have HS := Aside0.mk n_; clear n_))
                | (go_at_call 41; (have ht_ := bytes_C w5 t sT HSTX.out HTB.out HTLN.out); (rw [ht_.1]); (have n0_ := Aside0.mk (bytes_below HB.out HB.out.size 5 sT)); (have n1_ := Aside0.mk (Sep.below HS.out (bytes_below (Below.refl _ _) (Nat.le_refl _) 5 sT))); clear HB HS; (have HB := n0_); (have HS := n1_); clear n0_ n1_; (refine (stake_own _ _ t _ _ _ ht_.2 (grownCap_ge _ _ _ _) HTB.out HTLN.out HTK.out).mono ?_); (rintro e w7 ⟨A5, c5, rfl, _, hl5, ⟨G5, ho5⟩, hb⟩); (have n1_ := Aside0.mk (Sep.new HS.out hb (ho5.lower HB.out.size) ho5.lo)); (have n0_ := Aside0.mk (below_step HB.out hb)); clear HB HS hb ho5; have HB := n0_; have HS := n1_; clear n0_ n1_ ht_)
                | ((with_reducible refine gate_builtin (b := .append) (xs := #[.tmp 50, .tmp 55]) rfl ?_); (at_builtin); (have hsp_ := HS.out.p2); (have hfk_ := (pts_FK HS.out.own (m : Int) hl5)); (refine wp_appendN k109 (w0 := w) rfl (.tmp 50) (.tmp 55) 66 109 (.agg #[.int .i64 0, .slice none 0 0]) 32 rfl Try.underlying66 info109 rfl (by decide) (by decide) ((⟨(m : Int), ps⟩ : S109)) [.int .i64 (m : Int), .slice A5 ps.length c5] hsp_ rfl rfl hfk_ HB.out (by exact HAL.out) ?_); (intro v_ w_ F_ hs_ hb_); (obtain ⟨O1, hy_⟩ : ∃ y_, y_ = O ++ [(⟨(m : Int), ps⟩ : S109)] := ⟨_, rfl⟩; rw [← hy_] at hs_; have HO1 := Aside0.mk hy_; clear hy_ HB HS; have HB := Aside0.mk hb_; have HS := Aside0.mk hs_; clear hs_ hb_ hsp_ hfk_); (skip)))
              go_roundg k1
              case measure => omega
              case rel => exact ⟨i + 1, O1, F_, A7, c7, u, (by first | rfl | rw [HXI.out]), ⟨by have := HI.out.1; omega, by rw [HO1.out, List.length_append, HI.out.2.1]; rfl, (by
                  rw [HO1.out, List.flatMap_append, List.flatMap_cons, List.flatMap_nil, List.append_nil, List.append_assoc, HU.out, ← HG.out.2, ← HS1.out, ← HR1.out]
                  exact HI.out.2.2.1), (by
                  rw [HO1.out]
                  intro c hc
                  rcases List.mem_append.1 hc with hc | hc
                  · exact HI.out.2.2.2.1 c hc
                  · rw [List.mem_singleton.1 hc]; exact HG.out.1), HLC7.out, fun w2 h2 => HCD7.out w2 (HCD.out w2 (HI.out.2.2.2.2.2 w2 h2))⟩, HS, HB⟩
          · have hz : z1 = 6 := hz
            have hz2 : ps = [] := hz2
            subst hz hz2
            have hl := HLZ.out
            rw [HBS.out, btake_stop HI.out.2.2.1 HI.out.2.2.2.1 HKN.out (by rw [HR1.out, HS1.out]; exact next_bad (by rw [← HT.out, HTK.out]; decide))] at hl
            injection hl with h1 h2
            subst h1 h2
            go_wp2_with (first
              | (go_at_call 74; ((with_reducible refine (num_yes m r1 HM.out g A' c' r HR1.out false w _ HB.out (Sep.own HS.out.p2) (HI.out.2.2.2.2.2 _ (Kd.R_reads' (rowR HS.out.drop.drop)).2.2) HI.out.2.2.2.2.1 HRB.out HRL.out).mono ?_); rintro e w4 ⟨A6, c6, rfl, hlc, hcd, ht⟩; have HLC := Aside0.mk hlc; have HCD := Aside0.mk hcd; clear hlc hcd; obtain ⟨F_, hs_⟩ := Turned.sep ht (HS.out.p2) rfl; have n0_ := Aside0.mk (Turned.below ht); clear HB HS ht; have HB := n0_; have HS := Aside0.mk hs_; clear n0_ hs_; have n_ := HS.out.p2; clear HS; have HS := Aside0.mk n_; clear n_))
              | (go_at_call 93; ((with_reducible refine (otx_yes k s t u HK.out g A6 c6 r1 HS1.out HKS.out HT.out HU.out false w _ HB.out (Sep.own HS.out.p2) (fun w2 h2 => HCD.out w2 (HI.out.2.2.2.2.2 w2 (row_stay HS.out.drop h2))) HLC.out HRB1.out HRL1.out).mono ?_); rintro e w5 ⟨A7, c7, rfl, hlc, hcd, ht⟩; rw [← HSTX.out]; have HLC7 := Aside0.mk hlc; have HCD7 := Aside0.mk hcd; clear hlc hcd; obtain ⟨F_, hs_⟩ := Turned.sep ht (HS.out.p2) rfl; have n0_ := Aside0.mk (Turned.below ht); clear HB HS ht; have HB := n0_; have HS := Aside0.mk hs_; clear n0_ hs_; have n_ := HS.out.p2; clear HS; have HS := Aside0.mk n_; clear n_))
              | (go_at_call 41; (have ht_ := bytes_C w5 t sT HSTX.out HTB.out HTLN.out); (rw [ht_.1]); (have n0_ := Aside0.mk (bytes_below HB.out HB.out.size 5 sT)); (have n1_ := Aside0.mk (Sep.below HS.out (bytes_below (Below.refl _ _) (Nat.le_refl _) 5 sT))); clear HB HS; (have HB := n0_); (have HS := n1_); clear n0_ n1_; (refine (stake_own _ _ t _ _ _ ht_.2 (grownCap_ge _ _ _ _) HTB.out HTLN.out HTK.out).mono ?_); (rintro e w7 ⟨A5, c5, rfl, _, hl5, ⟨G5, ho5⟩, hb⟩); (have n1_ := Aside0.mk (Sep.new HS.out hb (ho5.lower HB.out.size) ho5.lo)); (have n0_ := Aside0.mk (below_step HB.out hb)); clear HB HS hb ho5; have HB := n0_; have HS := n1_; clear n0_ n1_ ht_))
            go_ret2
            exact ⟨_, rfl, Kd.N_nil _ _ _ _ _, HB.out⟩
        · have HNT := Aside0.mk (show ∀ (k : Nat) (s : List Int), k < 2 ^ 64 → r1 = varint k ++ s → s.length < k from fun k s h1 h2 => Nat.lt_of_not_le fun h3 => hex2 ⟨k, s, h1, h2, h3⟩)
          have hl := HLZ.out
          rw [HBS.out, btake_stop HI.out.2.2.1 HI.out.2.2.2.1 HKN.out (by rw [HR1.out]; exact next_text HNT.out)] at hl
          obtain ⟨t, ht⟩ : ∃ t, t = ([] : List Int) := ⟨_, rfl⟩
          have HT := Aside0.mk ht
          have HTB := Aside0.mk (show Byt t from by rw [ht]; exact fun y hy => by cases hy)
          have HTLN := Aside0.mk (show t.length < 1000000 by rw [ht]; decide)
          have HTK := Aside0.mk (show takeR t = ([], 6) by rw [ht]; exact take_none fun n r _ e => varint_ne n r e.symm)
          obtain ⟨sT, hsT⟩ : ∃ s, s = strOfNums t := ⟨_, rfl⟩
          have HSTX := Aside0.mk hsT
          have kb := fun W => print_bytes (P := Try.prog) 9 24 5 Try.underlying9 Try.underlying24 Try.underlying5 sT W
          injection hl with h1 h2
          subst h1 h2
          clear ht hsT
          clear hm hr1 hex2
          go_wp2_with (first
            | (go_at_call 74; ((with_reducible refine (num_yes m r1 HM.out g A' c' r HR1.out false w _ HB.out (Sep.own HS.out.p2) (HI.out.2.2.2.2.2 _ (Kd.R_reads' (rowR HS.out.drop.drop)).2.2) HI.out.2.2.2.2.1 HRB.out HRL.out).mono ?_); rintro e w4 ⟨A6, c6, rfl, hlc, hcd, ht⟩; have HLC := Aside0.mk hlc; have HCD := Aside0.mk hcd; clear hlc hcd; obtain ⟨F_, hs_⟩ := Turned.sep ht (HS.out.p2) rfl; have n0_ := Aside0.mk (Turned.below ht); clear HB HS ht; have HB := n0_; have HS := Aside0.mk hs_; clear n0_ hs_; have n_ := HS.out.p2; clear HS; have HS := Aside0.mk n_; clear n_))
            | (go_at_call 93; ((with_reducible refine (otx_no g A6 c6 r1 HNT.out false w _ HB.out (Sep.own HS.out.p2) (HCD.out _ (HI.out.2.2.2.2.2 _ (Kd.R_reads' (rowR HS.out.drop.drop)).2.2)) HLC.out HRB1.out HRL1.out).mono ?_); rintro e w5 ⟨rfl, ht⟩; rw [← HT.out, ← HSTX.out]; obtain ⟨F_, hs_⟩ := Turned.sep ht (HS.out.p2) rfl; have n0_ := Aside0.mk (Turned.below ht); clear HB HS ht; have HB := n0_; have HS := Aside0.mk hs_; clear n0_ hs_; have n_ := HS.out.p2; clear HS; have HS := Aside0.mk n_; clear n_))
            | (go_at_call 41; (have ht_ := bytes_C w5 t sT HSTX.out HTB.out HTLN.out); (rw [ht_.1]); (have n0_ := Aside0.mk (bytes_below HB.out HB.out.size 5 sT)); (have n1_ := Aside0.mk (Sep.below HS.out (bytes_below (Below.refl _ _) (Nat.le_refl _) 5 sT))); clear HB HS; (have HB := n0_); (have HS := n1_); clear n0_ n1_; (refine (stake_own _ _ t _ _ _ ht_.2 (grownCap_ge _ _ _ _) HTB.out HTLN.out HTK.out).mono ?_); (rintro e w7 ⟨A5, c5, rfl, _, hl5, ⟨G5, ho5⟩, hb⟩); (have n1_ := Aside0.mk (Sep.new HS.out hb (ho5.lower HB.out.size) ho5.lo)); (have n0_ := Aside0.mk (below_step HB.out hb)); clear HB HS hb ho5; have HB := n0_; have HS := n1_; clear n0_ n1_ ht_))
          go_ret2
          exact ⟨_, rfl, Kd.N_nil _ _ _ _ _, HB.out⟩
      · have HNO := Aside0.mk (show ∀ m s, m < 2 ^ 64 → r ≠ varint m ++ s from fun m s h1 h2 => hex ⟨m, s, h1, h2⟩)
        have hl := HLZ.out
        rw [HBS.out, btake_stop HI.out.2.2.1 HI.out.2.2.2.1 HKN.out (next_num HNO.out)] at hl
        obtain ⟨t, ht⟩ : ∃ t, t = ([] : List Int) := ⟨_, rfl⟩
        have HT := Aside0.mk ht
        have HTB := Aside0.mk (show Byt t from by rw [ht]; exact fun y hy => by cases hy)
        have HTLN := Aside0.mk (show t.length < 1000000 by rw [ht]; decide)
        have HTK := Aside0.mk (show takeR t = ([], 6) by rw [ht]; exact take_none fun n r _ e => varint_ne n r e.symm)
        obtain ⟨sT, hsT⟩ : ∃ s, s = strOfNums t := ⟨_, rfl⟩
        have HSTX := Aside0.mk hsT
        have kb := fun W => print_bytes (P := Try.prog) 9 24 5 Try.underlying9 Try.underlying24 Try.underlying5 sT W
        injection hl with h1 h2
        subst h1 h2
        clear ht hsT
        clear hex
        go_wp2_with (first
          | (go_at_call 74; ((with_reducible refine (num_no g A' c' r HNO.out false w _ HB.out (Sep.own HS.out.p2) (HI.out.2.2.2.2.2 _ (Kd.R_reads' (rowR HS.out.drop.drop)).2.2) HI.out.2.2.2.2.1 HRB.out HRL.out).mono ?_); rintro e w4 ⟨rfl, ht⟩; obtain ⟨F_, hs_⟩ := Turned.sep ht (HS.out.p2) rfl; have n0_ := Aside0.mk (Turned.below ht); clear HB HS ht; have HB := n0_; have HS := Aside0.mk hs_; clear n0_ hs_; have n_ := HS.out.p2; clear HS; have HS := Aside0.mk n_; clear n_))
          | (go_at_call 93; ((with_reducible refine (otx_no g none 0 [] (fun m r _ e => absurd e.symm (varint_ne m r)) true w _ HB.out (Sep.own HS.out.p2) (Kd.C_nil _ _) (Nat.le_refl _) byt_nil (by decide)).mono ?_); rintro e w5 ⟨rfl, ht⟩; rw [← HT.out, ← HSTX.out]; obtain ⟨F_, hs_⟩ := Turned.sep ht (HS.out.p2) rfl; have n0_ := Aside0.mk (Turned.below ht); clear HB HS ht; have HB := n0_; have HS := Aside0.mk hs_; clear n0_ hs_; have n_ := HS.out.p2; clear HS; have HS := Aside0.mk n_; clear n_))
          | (go_at_call 41; (have ht_ := bytes_C w5 t sT HSTX.out HTB.out HTLN.out); (rw [ht_.1]); (have n0_ := Aside0.mk (bytes_below HB.out HB.out.size 5 sT)); (have n1_ := Aside0.mk (Sep.below HS.out (bytes_below (Below.refl _ _) (Nat.le_refl _) 5 sT))); clear HB HS; (have HB := n0_); (have HS := n1_); clear n0_ n1_; (refine (stake_own _ _ t _ _ _ ht_.2 (grownCap_ge _ _ _ _) HTB.out HTLN.out HTK.out).mono ?_); (rintro e w7 ⟨A5, c5, rfl, _, hl5, ⟨G5, ho5⟩, hb⟩); (have n1_ := Aside0.mk (Sep.new HS.out hb (ho5.lower HB.out.size) ho5.lo)); (have n0_ := Aside0.mk (below_step HB.out hb)); clear HB HS hb ho5; have HB := n0_; have HS := n1_; clear n0_ n1_ ht_))
        go_ret2
        exact ⟨_, rfl, Kd.N_nil _ _ _ _ _, HB.out⟩
    · have d1b : decide ((i : Int) < (n : Int)) = false := decide_eq_false (by omega)
      have d1n : decide (i < n) = false := decide_eq_false hlt
      have hOn : O.length = n := by have := HI.out.1; have := HI.out.2.1; omega
      have hl := HLZ.out
      rw [HBS.out, btake_end HI.out.2.2.1 HI.out.2.2.2.1 hOn] at hl
      have HON := Aside0.mk (show O.length < 1000000000 by have := HN.out; omega)
      have HHL := Aside0.mk hl
      clear hl hlt hOn
      by_cases hr : r = []
      · subst hr
        cases hrt : rightC O
        · have HRT := Aside0.mk hrt
          have hl := HHL.out
          rw [if_neg (by rintro ⟨_, h⟩; rw [hrt] at h; exact absurd h (by decide))] at hl
          injection hl with h1 h2
          subst h1 h2
          clear hrt
          go_wp2_with (first
            | (go_at_call 76; ((with_reducible refine (end_named w.heap.size g A' 0 c' false 0 _ (by simp) HS.out.p2.own).mono ?_); rintro e w4 ⟨rfl, hb⟩; have n0_ := Aside0.mk (below_step (by repeat (first | (with_reducible first | exact HB.out | apply below_alloc | apply pw_below_drewN | apply below_drew1) | exact HB.out)) hb); have n1_ := Aside0.mk (Sep.below (by repeat (first | (with_reducible first | exact HS.out | apply sep_alloc | apply sep_drewN | apply sep_drew) | exact HS.out)) hb); clear HB HS; have HB := n0_; have HS := n1_; clear n0_ n1_ hb))
            | (go_at_call 55; ((with_reducible refine (bright_calls A9 c9 O false _ HRT.out (Kd.N_reads' HS.out.N).2.2 HL9.out HON.out (fun c hc => eok_len (HI.out.2.2.2.1 c hc))).mono ?_); rintro e w5 ⟨rfl, hb⟩; have n0_ := Aside0.mk (below_step (by repeat (first | (with_reducible first | exact HB.out | apply below_alloc | apply pw_below_drewN | apply below_drew1) | exact HB.out)) hb); have n1_ := Aside0.mk (Sep.below (by repeat (first | (with_reducible first | exact HS.out | apply sep_alloc | apply sep_drewN | apply sep_drew) | exact HS.out)) hb); clear HB HS; have HB := n0_; have HS := n1_; clear n0_ n1_ hb)))
          go_ret2
          exact ⟨_, rfl, Kd.N_nil _ _ _ _ _, HB.out⟩
        · have HRT := Aside0.mk hrt
          have hl := HHL.out
          rw [if_pos ⟨rfl, hrt⟩] at hl
          injection hl with h1 h2
          subst h1 h2
          clear hrt
          go_wp2_with (first
            | (go_at_call 76; ((with_reducible refine (end_named w.heap.size g A' 0 c' false 0 _ (by simp) HS.out.p2.own).mono ?_); rintro e w4 ⟨rfl, hb⟩; have n0_ := Aside0.mk (below_step (by repeat (first | (with_reducible first | exact HB.out | apply below_alloc | apply pw_below_drewN | apply below_drew1) | exact HB.out)) hb); have n1_ := Aside0.mk (Sep.below (by repeat (first | (with_reducible first | exact HS.out | apply sep_alloc | apply sep_drewN | apply sep_drew) | exact HS.out)) hb); clear HB HS; have HB := n0_; have HS := n1_; clear n0_ n1_ hb))
            | (go_at_call 55; ((with_reducible refine (bright_calls A9 c9 O true _ HRT.out (Kd.N_reads' HS.out.N).2.2 HL9.out HON.out (fun c hc => eok_len (HI.out.2.2.2.1 c hc))).mono ?_); rintro e w5 ⟨rfl, hb⟩; have n0_ := Aside0.mk (below_step (by repeat (first | (with_reducible first | exact HB.out | apply below_alloc | apply pw_below_drewN | apply below_drew1) | exact HB.out)) hb); have n1_ := Aside0.mk (Sep.below (by repeat (first | (with_reducible first | exact HS.out | apply sep_alloc | apply sep_drewN | apply sep_drew) | exact HS.out)) hb); clear HB HS; have HB := n0_; have HS := n1_; clear n0_ n1_ hb)))
          go_ret2
          exact ⟨_, rfl, Kd.N_mono HS.out.N (fun k hk => HS.out.own.lo k hk), HB.out⟩
      · obtain ⟨nr, hnr⟩ : ∃ q, q = r.length := ⟨_, rfl⟩
        have hpos : 0 < nr := by rw [hnr]; exact List.length_pos_iff.2 hr
        have HP := Aside0.mk hpos
        have hl := HHL.out
        rw [if_neg (by rintro ⟨h, _⟩; exact hr h)] at hl
        injection hl with h1 h2
        subst h1 h2
        have n_ := HS.out
        rw [← hnr] at n_
        clear HS
        have HS := Aside0.mk n_
        clear n_ hr hpos hnr
        go_wp2_with (first
          | (go_at_call 76; ((with_reducible refine (end_named w.heap.size g A' nr c' false 6 _ (by rw [if_pos (.inr HP.out)]) HS.out.p2.own).mono ?_); rintro e w4 ⟨rfl, hb⟩; have n0_ := Aside0.mk (below_step (by repeat (first | (with_reducible first | exact HB.out | apply below_alloc | apply pw_below_drewN | apply below_drew1) | exact HB.out)) hb); have n1_ := Aside0.mk (Sep.below (by repeat (first | (with_reducible first | exact HS.out | apply sep_alloc | apply sep_drewN | apply sep_drew) | exact HS.out)) hb); clear HB HS; have HB := n0_; have HS := n1_; clear n0_ n1_ hb)))
        go_ret2
        exact ⟨_, rfl, Kd.N_nil _ _ _ _ _, HB.out⟩
/-- block.Take. -/
theorem btake_calls (A0 : Option Addr) (c0 : Nat) (b : List Int) (w : World) (hr0 : Kd.C (Kd.int .u8) w A0 b.length b) (hc0 : b.length ≤ c0) (hby : Byt b) (hl : b.length < 1000000) (l : List S109) (z : Int) (hlz : btakeR b = (l, z)) :
    Calls Try.prog 59 #[.slice A0 b.length c0] w fun e w' => TakeN l z w e w' := by
  have bad : ∀ h : btakeR b = ([], 90), l = [] ∧ z = 90 := fun h => by
    rw [hlz] at h
    injection h with h1 h2
    exact ⟨h1, h2⟩
  by_cases h1 : ∃ x r, b = sealL x ++ r
  · obtain ⟨x, r, hb⟩ := h1
    by_cases hr : r = []
    · subst hr
      rw [List.append_nil] at hb
      by_cases h2 : ∃ n r0, n < 2 ^ 64 ∧ x = varint n ++ r0
      · obtain ⟨n, r0, hn, hx⟩ := h2
        by_cases h3 : n ≤ 200
        · exact btake_main A0 c0 b w hr0 hc0 hby hl n r0 h3 (by rw [hb, hx]) l z hlz
        · obtain ⟨rfl, rfl⟩ := bad (by rw [hb, hx]; exact btake_body fun l _ hr => body_many (by omega) l hr)
          exact btake_bad A0 c0 b w hr0 hc0 hby hl (.inr (.inr (.inl ⟨n, r0, hn, by omega, by rw [hb, hx]⟩)))
      · have h3 : ∀ m r, m < 2 ^ 64 → x ≠ varint m ++ r := fun m r hm he => h2 ⟨m, r, hm, he⟩
        obtain ⟨rfl, rfl⟩ := bad (by rw [hb]; exact btake_body fun l _ hr => body_none h3 l hr)
        exact btake_bad A0 c0 b w hr0 hc0 hby hl (.inr (.inr (.inr ⟨x, hb, h3⟩)))
    · obtain ⟨rfl, rfl⟩ := bad (by rw [hb]; exact btake_over hr)
      exact btake_bad A0 c0 b w hr0 hc0 hby hl (.inr (.inl ⟨x, r, hb, hr⟩))
  · have h2 : ∀ x r, b ≠ sealL x ++ r := fun x r he => h1 ⟨x, r, he⟩
    obtain ⟨rfl, rfl⟩ := bad (btake_open h2)
    exact btake_bad A0 c0 b w hr0 hc0 hby hl (.inl h2)
end Go.Proofs.Ythkpnnbjcendcaa.Sc
end
section
/- Both Takes of blocks, in the print's form. -/
set_option linter.unusedVariables false
open Go.RowKit Go.Proofs.Ythkpnnbjcendcaa.X Go.Proofs.Ythkpnnbjcendcaa.Pl Go.Proofs.Ythkpnnbjcendcaa.Sp Go.Proofs.Ythkpnnbjcendcaa.Pure Go.Proofs.YthkpnnbjcendcaaW.PrintWords Go.Proofs.YthkpnnbjcendcaaW.PrintLast Go.Proofs.YthkpnnbjcendcaaW.PrintMore
namespace Go.Proofs.Ythkpnnbjcendcaa.X
open Classical in
noncomputable def block_Take.f (l0 : List Int) : Option (List S109 × Int) := if l0.length < 1000000 ∧ Byt l0 then some (btakeR l0) else none
theorem block_Take.calls (A0 : Option Addr) (c0 : Nat) (l0 : List Int) (r1 : List (S109)) (r2 : Int) (w : World) (hr0 : Kd.C (Kd.int .u8) w A0 l0.length l0) (hc0 : l0.length ≤ c0) (h : block_Take.f l0 = some (r1, r2)) :
    Calls Try.prog 59 #[.slice A0 l0.length c0] w fun e w' => ∃ v0_ : Value, e = .returned (.tuple #[v0_, .int .i64 r2]) ∧ Kd.N k109 109 w' w.heap.size (fun k => w.heap.size ≤ k) v0_ r1 ∧ Below w.heap.size w w' := by
  unfold block_Take.f at h
  split at h
  case isFalse => cases h
  case isTrue hfit => exact Sc.btake_calls A0 c0 l0 w hr0 hc0 hfit.2 hfit.1 r1 r2 (Option.some.inj h)
end Go.Proofs.Ythkpnnbjcendcaa.X
end
