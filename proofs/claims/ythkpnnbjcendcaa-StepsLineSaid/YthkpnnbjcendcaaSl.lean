/- StepsLine, walked: numbers with steps that are all the same have Seconds of 0 from the third on. -/
import Derived.Test.YthkpnnbjcendcaaSw4
import Derived.Test.YthkpnnbjcendcaaPse
set_option linter.unusedVariables false
set_option linter.unusedSimpArgs false
open Go.RowKit Go.Proofs.Ythkpnnbjcendcaa.X Go.Proofs.Ythkpnnbjcendcaa.Pl Go.Proofs.Ythkpnnbjcendcaa.Sp Go.Proofs.Ythkpnnbjcendcaa.Sc Go.Proofs.Ythkpnnbjcendcaa.Pure Go.Proofs.YthkpnnbjcendcaaW.PrintWords Go.Proofs.YthkpnnbjcendcaaW.PrintLast Go.Proofs.YthkpnnbjcendcaaW.PrintMore
namespace Go.Proofs.Ythkpnnbjcendcaa.X
def marigraphlaw04_StepsLine.Fit (a b c : Int) : Prop := (Lit.int .i64 a).wf = true ∧ (Lit.int .i64 b).wf = true ∧ (Lit.int .u8 c).wf = true
open Classical in
noncomputable def marigraphlaw04_StepsLine.f (a b c : Int) : Option Bool := if marigraphlaw04_StepsLine.Fit a b c then some true else none
set_option maxHeartbeats 8000000 in
set_option maxRecDepth 100000 in
theorem marigraphlaw04_StepsLine.calls (a0 a1 a2 : Int) (r : Bool) (w : World) (h : marigraphlaw04_StepsLine.f a0 a1 a2 = some r) :
    Calls Try.prog 8 #[.int .i64 a0, .int .i64 a1, .int .u8 a2] w fun e w' => e = .returned (.bool r) ∧ Below w.heap.size w w' := by
  unfold marigraphlaw04_StepsLine.f at h
  split at h
  case isFalse => cases h
  case isTrue hfit =>
  obtain rfl := Option.some.inj h
  obtain ⟨h0, h1, h2⟩ := hfit
  have HF0 := Aside0.mk (show fits64 a0 from wf64 h0)
  have HF1 := Aside0.mk (show fits64 a1 from wf64 h1)
  have hc : 0 ≤ a2 ∧ a2 ≤ 255 := by simpa [Lit.wf, IntKind.min, IntKind.max, IntKind.signed, IntKind.bits] using h2
  obtain ⟨m, hm⟩ : ∃ m : Nat, m = a2.toNat % 99 + 2 := ⟨_, rfl⟩
  have hm1 : wrap64 (Int.tmod a2 99 + 2) = (m : Int) := by rw [tmod_pos hc.1, w64 (by omega) (by omega)]; omega
  have hm2 : Int.tmod a2 99 + 2 = (m : Int) := by rw [tmod_pos hc.1]; omega
  have hm3 : a2 % 99 + 2 = (m : Int) := by omega
  have hm4 : wrap64 (a2 % 99 + 2) = (m : Int) := by rw [w64 (by omega) (by omega)]; omega
  have HM := Aside0.mk (show 2 ≤ m ∧ m ≤ 100 by omega)
  have HB := Aside0.mk (Below.refl w.heap.size w)
  have HS := Aside0.mk (Sep.nil w.heap.size w)
  clear h h0 h1 h2 hc hm
  go_enter Try.func8, Try.ntmps8
  go_wp2_with (first
    | ((with_reducible refine gate_dst (N := 13) rfl ?_); (try (refine gate_guard (by rfl) ?_; dsimp only)); refine goesL_ (some 13) rfl rfl Try.func32 (by kernel_rfl) rfl #[] rfl (by (try simp only [List.map_toArray, List.map_cons, List.map_nil]); first | done | rfl) ?_; (with_reducible refine (shown4_calls _).mono ?_); rintro e w2 ⟨rfl, hb⟩; refine ⟨_, rfl, ?_⟩; have n0_ := Aside0.mk (below_step (by repeat (first | (with_reducible first | exact HB.out | apply below_alloc | apply pw_below_drewN | apply below_drew1) | exact HB.out)) hb); have n1_ := Aside0.mk (Sep.below (by repeat (first | (with_reducible first | exact HS.out | apply sep_alloc | apply sep_drewN | apply sep_drew) | exact HS.out)) hb); clear HB HS; have HB := n0_; have HS := n1_; clear n0_ n1_ hb))
  go_loopg [8, 18] m (fun kq v8 v18 w' => ∃ (j : Nat) (O : List Int) (F : Nat → Prop), v18 = .int .i64 (j : Int) ∧ Aside0 (kq + j = m ∧ O = lineL a0 a1 j) ∧ Aside0 (Sep w.heap.size w' [row F (Kd.int .i64) 3 w.heap.size v8 O]) ∧ Aside0 (Below w.heap.size w w'))
  case atStart => exact ⟨0, [], _, rfl, ⟨by omega, rfl⟩, ⟨HS.out.nilrow (Kd.int .i64) 3⟩, HB⟩
  case round =>
    clear HS HB hm1 hm2 hm3 hm4
    obtain ⟨j, O, F, rfl, HI, HS, HB⟩ := hrel
    obtain ⟨A_, c_, e_⟩ := Kd.R_slice (Sep.R HS.out)
    subst e_
    by_cases hlt : j < m
    · obtain ⟨k1, rfl⟩ : ∃ q, gk = q + 1 := ⟨gk - 1, by have := HI.out; omega⟩
      have c1b : decide ((j : Int) < (m : Int)) = true := decide_eq_true (by omega)
      have c1n : decide (j < m) = true := decide_eq_true hlt
      have hnx : wrap64 ((j : Int) + 1) = ((j + 1 : Nat) : Int) := by have := HM.out; rw [w64 (by omega) (by omega)]; simp
      have HX := Aside0.mk hnx
      have HJ := Aside0.mk hlt
      clear hnx hlt
      go_wp2_with (first
        | ((with_reducible refine gate_builtin (b := .append) (xs := #[.tmp 21, .tmp 27]) rfl ?_); go_loud (at_builtin); go_loud (refine wp_append (Kd.int .i64) (w0 := w) rfl (.tmp 21) (.tmp 27) 54 3 (.int .i64 0) 8 rfl Try.underlying54 info3 rfl (by decide) (by omega) (wrap64 (a0 + wrap64 ((j : Int) * a1))) [.int .i64 (wrap64 (a0 + wrap64 ((j : Int) * a1)))] HS.out rfl rfl rfl (by repeat (first | (with_reducible first | exact HB.out | apply below_alloc | apply pw_below_drewN | apply below_drew1) | exact HB.out)) (by have h1 := HI.out.2; have := lineL_length a0 a1 j; rw [← h1] at this; have := HM.out; have := HJ.out; omega) ?_); go_loud (intro v_ w_ F_ hs_ hb_); go_loud (obtain ⟨O1, hy_⟩ : ∃ y_, y_ = O ++ [wrap64 (a0 + wrap64 ((j : Int) * a1))] := ⟨_, rfl⟩; rw [← hy_] at hs_; have HO1 := Aside0.mk hy_; clear hy_ HB HS; have HB := Aside0.mk hb_; have HS := Aside0.mk hs_; clear hs_ hb_; obtain ⟨A_, c_, e_⟩ := Kd.R_slice (Sep.R HS.out); subst e_); go_loud (skip)))
      go_roundg k1
      case measure => omega
      case rel => exact ⟨j + 1, O1, _, (by first | rfl | rw [HX.out]), ⟨by have := HI.out; omega, by rw [HO1.out, HI.out.2, lineL_snoc]⟩, HS, HB⟩
    · have c1b : decide ((j : Int) < (m : Int)) = false := decide_eq_false (by omega)
      have c1n : decide (j < m) = false := decide_eq_false hlt
      have hj : j = m := by have := HI.out; omega
      have HO := Aside0.mk (show O = lineL a0 a1 m from hj ▸ HI.out.2)
      have HOL := Aside0.mk (show O.length = m by rw [HO.out, lineL_length])
      obtain ⟨X, hX⟩ : ∃ X, X = secs 0 0 O := ⟨_, rfl⟩
      have HX := Aside0.mk hX
      have HXL := Aside0.mk (show X.length = m by rw [hX, secs_length, HOL.out])
      have HXV := Aside0.mk (show ∀ i, i < m → X.getD i 0 = if i = 0 then a0 else if i = 1 then wrap64 (a1 - a0) else 0 from fun i hi => by rw [hX, HO.out]; exact line_secs a0 a1 m HF0.out HF1.out i hi)
      have hOe := HOL.out
      clear hlt hj hX
      go_wp2_with (first
        | ((with_reducible refine gate_dst (N := 31) rfl ?_); (try (refine gate_guard (by rfl) ?_; dsimp only)); refine goesL_ (some 31) rfl rfl Try.func35 (by kernel_rfl) rfl #[.slice A_ O.length c_] rfl (by (try simp only [List.map_toArray, List.map_cons, List.map_nil]); first | done | rfl) ?_; (with_reducible refine (seconds_calls A_ c_ O _ (Kd.R_reads' (Sep.R HS.out)).2.2 (by rw [HOL.out]; have := HM.out; omega)).mono ?_); rintro e w8 ⟨v, rfl, ho, hb⟩; refine ⟨_, rfl, ?_⟩; rw [← HX.out] at ho; obtain ⟨A3, c3, e_⟩ := Kd.R_slice ho; rw [HXL.out] at e_; subst e_; obtain ⟨F3, hs_⟩ := Sep.newrow (by repeat (first | (with_reducible first | exact HS.out | apply sep_alloc | apply sep_drewN | apply sep_drew) | exact HS.out)) hb (below_size (by repeat (first | (with_reducible first | exact HB.out | apply below_alloc | apply pw_below_drewN | apply below_drew1) | exact HB.out))) ho; have n0_ := Aside0.mk (below_step (by repeat (first | (with_reducible first | exact HB.out | apply below_alloc | apply pw_below_drewN | apply below_drew1) | exact HB.out)) hb); clear HB HS hb ho; have HB := n0_; have HS := Aside0.mk hs_; clear n0_ hs_; obtain ⟨gb, cb, e2, hgb⟩ := Kd.R_form (Sep.R HS.out) (by rw [HXL.out]; have := HM.out; omega); obtain ⟨rfl, rfl⟩ : A3 = some ⟨gb, 0, none⟩ ∧ c3 = cb := (by injection e2 with h1 h2 h3; exact ⟨h1, h3⟩); have hcx0 := (Sep.celli HS.out 0 (by have := HM.out; omega)).1; have hcx1 := (Sep.celli HS.out 1 (by have := HM.out; omega)).1; rw [HXV.out 0 (by have := HM.out; omega), if_pos rfl] at hcx0; rw [HXV.out 1 (by have := HM.out; omega), if_neg (by decide), if_pos rfl] at hcx1; obtain ⟨i05, hi05, _, hsz5, _⟩ := info_parts info3; have hcut := cut_from (P := Try.prog) 54 3 .i64 Try.underlying54 hi05 1 hsz5 (some ⟨gb, 0, none⟩) m c3 2 (by decide) (by have := HM.out; omega); have hCD := Kd.C_drop (m := 2) (Kd.R_reads' (Sep.R HS.out)).2.2 (by rw [HXL.out]; exact HM.out.1) (by rw [HXL.out]; exact (Kd.R_reads' (Sep.R HS.out)).2.1); obtain ⟨A4, hA4⟩ : ∃ A, A = (if c3 = 2 then (some ⟨gb, 0, none⟩ : Option Addr) else (some (⟨gb, 0, none⟩ : Addr)).map (fun x => x.add (2 * 1))) := ⟨_, rfl⟩; have HCD := Aside0.mk (show Kd.C (Kd.int .i64) _ A4 (X.drop 2).length (X.drop 2) from hA4 ▸ hCD); simp only [Int.reduceToNat] at hcut; rw [← hA4] at hcut; obtain ⟨n2, hn2⟩ : ∃ n2, n2 = m - 2 := ⟨_, rfl⟩; rw [← hn2] at hcut; have HN2 := Aside0.mk hn2; clear hn2 e2 hgb hi05 hsz5 hCD hA4; have hm2 := HM.out.1; have hm0 := eq_true (show 0 < m by omega); have hm1 := eq_true (show 1 < m by omega)))
      have HB8 := HB
      go_loopg [56] n2 (fun kq v56 w' => ∃ (i : Nat), v56 = .int .i64 (i : Int) ∧ Aside0 (kq + i = n2) ∧ Aside0 (Kd.C (Kd.int .i64) w' A4 (X.drop 2).length (X.drop 2)) ∧ Aside0 (Below w.heap.size w w'))
      case atStart => exact ⟨0, rfl, ⟨by omega⟩, HCD, HB⟩
      case round =>
        clear HS HB HB8 HCD hcx0 hcx1 hcut hm0 hm1 hm2 hOe
        obtain ⟨i, rfl, HI2, HCD, HB⟩ := hrel
        have hdl : (X.drop 2).length = n2 := by rw [List.length_drop, HXL.out, HN2.out]
        by_cases hlt : i < n2
        · obtain ⟨k1, rfl⟩ : ∃ q, gk = q + 1 := ⟨gk - 1, by have := HI2.out; omega⟩
          have c2b : decide ((i : Int) < (n2 : Int)) = true := decide_eq_true (by omega)
          have c2n : decide (i < n2) = true := decide_eq_true hlt
          have hnx : wrap64 ((i : Int) + 1) = ((i + 1 : Nat) : Int) := by have := HM.out; have := HN2.out; rw [w64 (by omega) (by omega)]; simp
          obtain ⟨ad, e1, hx0⟩ := Kd.at_int HCD.out (i : Int) (by omega) (by omega)
          subst e1
          have hz : rd (X.drop 2) (i : Int) = 0 := by
            rw [rd_get, List.getD_eq_getElem?_getD, List.getElem?_drop, ← List.getD_eq_getElem?_getD, HXV.out _ (by have := HN2.out; omega), if_neg (by omega), if_neg (by omega)]
          rw [Int.toNat_natCast, hz] at hx0
          have HX1 := Aside0.mk hnx
          have c4 := eq_true hlt
          have c5 := eq_true (show (i : Int) < (n2 : Int) by omega)
          have c6 := eq_true (show 0 ≤ (i : Int) by omega)
          clear hnx hlt hz hdl
          go_wp2
          go_roundg k1
          case measure => omega
          case rel => exact ⟨i + 1, (by first | rfl | rw [HX1.out]), ⟨by have := HI2.out; omega⟩, HCD, HB⟩
        · have c2b : decide ((i : Int) < (n2 : Int)) = false := decide_eq_false (by omega)
          have c2n : decide (i < n2) = false := decide_eq_false hlt
          clear hlt hdl
          go_wp2
          go_ret
          exact ⟨rfl, HB.out⟩
end Go.Proofs.Ythkpnnbjcendcaa.X
