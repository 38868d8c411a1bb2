/- StepsShift, walked: when the same is added to all numbers only the first two Seconds are others. -/
import Derived.Test.YthkpnnbjcendcaaSw4
import Derived.Test.YthkpnnbjcendcaaFs
import Derived.Test.YthkpnnbjcendcaaPrs
set_option linter.unusedVariables false
set_option linter.unusedSimpArgs false
open Go.RowKit Go.Proofs.Ythkpnnbjcendcaa.X Go.Proofs.Ythkpnnbjcendcaa.Pl Go.Proofs.Ythkpnnbjcendcaa.Sp Go.Proofs.Ythkpnnbjcendcaa.Sc Go.Proofs.Ythkpnnbjcendcaa.Pure Go.Proofs.YthkpnnbjcendcaaW.PrintWords Go.Proofs.YthkpnnbjcendcaaW.PrintLast Go.Proofs.YthkpnnbjcendcaaW.PrintMore
namespace Go.Proofs.Ythkpnnbjcendcaa.X
def marigraphlaw04_StepsShift.Fit (l : List Int) (b : Int) : Prop := l.length * 8 ≤ 140737488351232 ∧ (∀ y ∈ l, (Lit.int .i64 y).wf = true) ∧ (Lit.int .i64 b).wf = true
open Classical in
noncomputable def marigraphlaw04_StepsShift.f (l : List Int) (b : Int) : Option Bool := if marigraphlaw04_StepsShift.Fit l b then some true else none
set_option maxHeartbeats 8000000 in
set_option maxRecDepth 100000 in
theorem marigraphlaw04_StepsShift.calls (A0 : Option Addr) (c0 : Nat) (l0 : List Int) (a1 : Int) (r : Bool) (w : World) (hr0 : Kd.C (Kd.int .i64) w A0 l0.length l0) (hc0 : l0.length ≤ c0) (h : marigraphlaw04_StepsShift.f l0 a1 = some r) :
    Calls Try.prog 9 #[.slice A0 l0.length c0, .int .i64 a1] w fun e w' => e = .returned (.bool r) ∧ Below w.heap.size w w' := by
  unfold marigraphlaw04_StepsShift.f at h
  split at h
  case isFalse => cases h
  case isTrue hfit =>
  obtain rfl := Option.some.inj h
  obtain ⟨hlen, hwf, hby⟩ := hfit
  obtain ⟨x, hx⟩ : ∃ x, x = l0.take 300 := ⟨_, rfl⟩
  have hfx : ∀ y ∈ x, fits64 y := fun y hy => wf64 (hwf y (List.mem_of_mem_take (hx ▸ hy)))
  have HX := Aside0.mk hx
  have HR := Aside0.mk (show Kd.C (Kd.int .i64) w A0 x.length x from hx ▸ C_take' hr0 300)
  have HC := Aside0.mk hc0
  have HL := Aside0.mk (show x.length ≤ 300 by rw [hx, List.length_take]; omega)
  have HFX := Aside0.mk hfx
  have HFB := Aside0.mk (show fits64 a1 from wf64 hby)
  have HB := Aside0.mk (Below.refl w.heap.size w)
  have HS := Aside0.mk (Sep.nil w.heap.size w)
  clear h hr0 hc0 hlen hwf hx hfx hby
  go_enter Try.func9, Try.ntmps9
  go_wp2_with (first
    | ((with_reducible refine gate_dst (N := 13) rfl ?_); (try (refine gate_guard (by rfl) ?_; dsimp only)); refine goesL_ (some 13) rfl rfl Try.func32 (by kernel_rfl) rfl #[] rfl (by (try simp only [List.map_toArray, List.map_cons, List.map_nil]); first | done | rfl) ?_; (with_reducible refine (shown4_calls _).mono ?_); rintro e w2 ⟨rfl, hb⟩; refine ⟨_, rfl, ?_⟩; have n0_ := Aside0.mk (below_step (by repeat (first | (with_reducible first | exact HB.out | apply below_alloc | apply pw_below_drewN | apply below_drew1) | exact HB.out)) hb); have n1_ := Aside0.mk (Sep.below (by repeat (first | (with_reducible first | exact HS.out | apply sep_alloc | apply sep_drewN | apply sep_drew) | exact HS.out)) hb); clear HB HS; have HB := n0_; have HS := n1_; clear n0_ n1_ hb)
    | ((with_reducible refine gate_dst (N := 15) rfl ?_); (try (refine gate_guard (by rfl) ?_; dsimp only)); refine goesL_ (some 15) rfl rfl Try.func36 (by kernel_rfl) rfl #[.slice A0 l0.length c0] rfl (by (try simp only [List.map_toArray, List.map_cons, List.map_nil]); first | done | rfl) ?_; (with_reducible refine (some04_calls A0 c0 l0 _ HC.out).mono ?_); rintro e w1 ⟨rfl, hb⟩; refine ⟨_, rfl, ?_⟩; rw [← HX.out]; have n0_ := Aside0.mk (below_step (by repeat (first | (with_reducible first | exact HB.out | apply below_alloc | apply pw_below_drewN | apply below_drew1) | exact HB.out)) hb); have n1_ := Aside0.mk (Sep.below (by repeat (first | (with_reducible first | exact HS.out | apply sep_alloc | apply sep_drewN | apply sep_drew) | exact HS.out)) hb); clear HB HS; have HB := n0_; have HS := n1_; clear n0_ n1_ hb))
  go_loopg [6, 17] x.length (fun kq v6 v17 w' => ∃ (j : Nat) (O : List Int) (F : Nat → Prop), v17 = .int .i64 (j : Int) ∧ Aside0 (kq + j = x.length ∧ O = (x.take j).map fun y => wrap64 (y + a1)) ∧ Aside0 (Sep w.heap.size w' [row F (Kd.int .i64) 3 w.heap.size v6 O]) ∧ Aside0 (Below w.heap.size w w'))
  case atStart => exact ⟨0, [], _, rfl, ⟨by omega, rfl⟩, ⟨HS.out.nilrow (Kd.int .i64) 3⟩, HB⟩
  case round =>
    clear HS HB
    obtain ⟨j, O, F, rfl, HI, HS, HB⟩ := hrel
    obtain ⟨A_, c_, e_⟩ := Kd.R_slice (Sep.R HS.out)
    subst e_
    by_cases hlt : j < x.length
    · obtain ⟨k1, rfl⟩ : ∃ q, gk = q + 1 := ⟨gk - 1, by have := HI.out; omega⟩
      have c1b : decide ((j : Int) < (x.length : Int)) = true := decide_eq_true (by omega)
      have c1n : decide (j < x.length) = true := decide_eq_true hlt
      have hnx : wrap64 ((j : Int) + 1) = ((j + 1 : Nat) : Int) := by have := HL.out; rw [w64 (by omega) (by omega)]; simp
      obtain ⟨ad, e1, hx0⟩ := Kd.at_int HR.out (j : Int) (by omega) (by omega)
      cases e1
      rw [Int.toNat_natCast] at hx0
      replace hx0 := (HB.out.cell (World.block_lt_of_cell? w _ hx0)).trans hx0
      have hOl : O.length ≤ 300 := by rw [HI.out.2, List.length_map, List.length_take]; have := HL.out; omega
      have htk : x.take (j + 1) = x.take j ++ [rd x (j : Int)] := by
        rw [List.take_succ_eq_append_getElem hlt]
        unfold rd
        rw [Int.toNat_natCast, getD_lt _ _ _ hlt]
      obtain ⟨y, hy⟩ : ∃ y, y = rd x (j : Int) := ⟨_, rfl⟩
      rw [← hy] at hx0 htk
      have HOL := Aside0.mk hOl
      have HTK := Aside0.mk htk
      have HX1 := Aside0.mk hnx
      have c4 := eq_true hlt
      have c5 := eq_true (show (j : Int) < (x.length : Int) by omega)
      have c6 := eq_true (show 0 ≤ (j : Int) by omega)
      clear hnx hlt hOl htk hy
      go_wp2_with (first
        | ((with_reducible refine gate_builtin (b := .append) (xs := #[.tmp 21, .tmp 25]) rfl ?_); go_loud (at_builtin); go_loud (refine wp_append (Kd.int .i64) (w0 := w) rfl (.tmp 21) (.tmp 25) 54 3 (.int .i64 0) 8 rfl Try.underlying54 info3 rfl (by decide) (by omega) (wrap64 (y + a1)) [.int .i64 (wrap64 (y + a1))] HS.out rfl rfl rfl (by repeat (first | (with_reducible first | exact HB.out | apply below_alloc | apply pw_below_drewN | apply below_drew1) | exact HB.out)) (by have := HOL.out; omega) ?_); go_loud (intro v_ w_ F_ hs_ hb_); go_loud (obtain ⟨O1, hy_⟩ : ∃ y_, y_ = O ++ [wrap64 (y + a1)] := ⟨_, rfl⟩; rw [← hy_] at hs_; have HO1 := Aside0.mk hy_; clear hy_ HB HS; have HB := Aside0.mk hb_; have HS := Aside0.mk hs_; clear hs_ hb_; obtain ⟨A_, c_, e_⟩ := Kd.R_slice (Sep.R HS.out); subst e_); go_loud (skip)))
      go_roundg k1
      case measure => omega
      case rel => exact ⟨j + 1, O1, _, (by first | rfl | rw [HX1.out]), ⟨by have := HI.out; omega, by rw [HO1.out, HI.out.2, HTK.out, List.map_append]; rfl⟩, HS, HB⟩
    · have c1b : decide ((j : Int) < (x.length : Int)) = false := decide_eq_false (by omega)
      have c1n : decide (j < x.length) = false := decide_eq_false hlt
      have hO : O = x.map fun y => wrap64 (y + a1) := by rw [HI.out.2, List.take_of_length_le (by omega)]
      obtain ⟨a, ha⟩ : ∃ a, a = secs 0 0 x := ⟨_, rfl⟩
      obtain ⟨b, hb⟩ : ∃ b, b = secs 0 0 O := ⟨_, rfl⟩
      have HA := Aside0.mk ha
      have HBB := Aside0.mk hb
      have HOL := Aside0.mk (show O.length ≤ 1000000 by rw [hO, List.length_map]; have := HL.out; omega)
      have HAL := Aside0.mk (show a.length = x.length by rw [ha, secs_length])
      have HBL := Aside0.mk (show b.length = x.length by rw [hb, secs_length, hO, List.length_map])
      have HSH := Aside0.mk (show ∀ i, i < x.length → b.getD i 0 = if i = 0 then wrap64 (a.getD i 0 + a1) else if i = 1 then wrap64 (a.getD i 0 - a1) else a.getD i 0 from fun i hi => by rw [hb, ha, hO]; exact shift_secs x a1 HFX.out HFB.out i hi)
      clear hlt hO ha hb
      go_wp2_with (first
        | ((with_reducible refine gate_dst (N := 29) rfl ?_); (try (refine gate_guard (by rfl) ?_; dsimp only)); refine goesL_ (some 29) rfl rfl Try.func36 (by kernel_rfl) rfl #[.slice A0 l0.length c0] rfl (by (try simp only [List.map_toArray, List.map_cons, List.map_nil]); first | done | rfl) ?_; (with_reducible refine (some04_calls A0 c0 l0 _ HC.out).mono ?_); rintro e w1 ⟨rfl, hb⟩; refine ⟨_, rfl, ?_⟩; rw [← HX.out]; have n0_ := Aside0.mk (below_step (by repeat (first | (with_reducible first | exact HB.out | apply below_alloc | apply pw_below_drewN | apply below_drew1) | exact HB.out)) hb); have n1_ := Aside0.mk (Sep.below (by repeat (first | (with_reducible first | exact HS.out | apply sep_alloc | apply sep_drewN | apply sep_drew) | exact HS.out)) hb); clear HB HS; have HB := n0_; have HS := n1_; clear n0_ n1_ hb)
        | ((with_reducible refine gate_dst (N := 30) rfl ?_); (try (refine gate_guard (by rfl) ?_; dsimp only)); refine goesL_ (some 30) rfl rfl Try.func35 (by kernel_rfl) rfl #[.slice A0 x.length c0] rfl (by (try simp only [List.map_toArray, List.map_cons, List.map_nil]); first | done | rfl) ?_; (with_reducible refine (seconds_calls A0 c0 x _ (Kd.C_below HR.out HB.out) (by have := HL.out; omega)).mono ?_); rintro e w3 ⟨v, rfl, ho, hb⟩; refine ⟨_, rfl, ?_⟩; rw [← HA.out] at ho; obtain ⟨A1, c1, e_⟩ := Kd.R_slice ho; rw [HAL.out] at e_; subst e_; obtain ⟨F1, hs_⟩ := Sep.newrow (by repeat (first | (with_reducible first | exact HS.out | apply sep_alloc | apply sep_drewN | apply sep_drew) | exact HS.out)) hb (below_size (by repeat (first | (with_reducible first | exact HB.out | apply below_alloc | apply pw_below_drewN | apply below_drew1) | exact HB.out))) ho; have n0_ := Aside0.mk (below_step (by repeat (first | (with_reducible first | exact HB.out | apply below_alloc | apply pw_below_drewN | apply below_drew1) | exact HB.out)) hb); clear HB HS hb ho; have HB := n0_; have HS := Aside0.mk hs_; clear n0_ hs_)
        | ((with_reducible refine gate_dst (N := 32) rfl ?_); (try (refine gate_guard (by rfl) ?_; dsimp only)); refine goesL_ (some 32) rfl rfl Try.func35 (by kernel_rfl) rfl #[.slice A_ O.length c_] rfl (by (try simp only [List.map_toArray, List.map_cons, List.map_nil]); first | done | rfl) ?_; (with_reducible refine (seconds_calls A_ c_ O _ (Kd.R_reads' (Sep.R HS.out.p2)).2.2 HOL.out).mono ?_); rintro e w3 ⟨v, rfl, ho, hb⟩; refine ⟨_, rfl, ?_⟩; rw [← HBB.out] at ho; obtain ⟨A2, c2, e_⟩ := Kd.R_slice ho; rw [HBL.out] at e_; subst e_; obtain ⟨F2, hs_⟩ := Sep.newrow (by repeat (first | (with_reducible first | exact HS.out | apply sep_alloc | apply sep_drewN | apply sep_drew) | exact HS.out)) hb (below_size (by repeat (first | (with_reducible first | exact HB.out | apply below_alloc | apply pw_below_drewN | apply below_drew1) | exact HB.out))) ho; have n0_ := Aside0.mk (below_step (by repeat (first | (with_reducible first | exact HB.out | apply below_alloc | apply pw_below_drewN | apply below_drew1) | exact HB.out)) hb); clear HB HS hb ho; have HB := n0_; have HS := Aside0.mk hs_; clear n0_ hs_)
        | ((with_reducible refine gate_dst (N := 36) rfl ?_); (try (refine gate_guard (by rfl) ?_; dsimp only)); refine goesL_ (some 36) rfl rfl Try.func36 (by kernel_rfl) rfl #[.slice A0 l0.length c0] rfl (by (try simp only [List.map_toArray, List.map_cons, List.map_nil]); first | done | rfl) ?_; (with_reducible refine (some04_calls A0 c0 l0 _ HC.out).mono ?_); rintro e w1 ⟨rfl, hb⟩; refine ⟨_, rfl, ?_⟩; rw [← HX.out]; have n0_ := Aside0.mk (below_step (by repeat (first | (with_reducible first | exact HB.out | apply below_alloc | apply pw_below_drewN | apply below_drew1) | exact HB.out)) hb); have n1_ := Aside0.mk (Sep.below (by repeat (first | (with_reducible first | exact HS.out | apply sep_alloc | apply sep_drewN | apply sep_drew) | exact HS.out)) hb); clear HB HS; have HB := n0_; have HS := n1_; clear n0_ n1_ hb))
      go_loopg [48] x.length (fun kq v48 w' => ∃ (i : Nat), v48 = .int .i64 (i : Int) ∧ Aside0 (kq + i = x.length) ∧ Aside0 (Kd.C (Kd.int .i64) w' A1 a.length a ∧ Kd.C (Kd.int .i64) w' A2 b.length b) ∧ Aside0 (Below w.heap.size w w'))
      case atStart => exact ⟨0, rfl, ⟨by omega⟩, ⟨(Kd.R_reads' (Sep.R HS.out.p2)).2.2, (Kd.R_reads' (Sep.R HS.out)).2.2⟩, HB⟩
      case round =>
        clear HS HB
        obtain ⟨i, rfl, HI2, HCC, HB⟩ := hrel
        by_cases hlt : i < x.length
        · obtain ⟨k1, rfl⟩ : ∃ q, gk = q + 1 := ⟨gk - 1, by have := HI2.out; omega⟩
          have c2b : decide ((i : Int) < (x.length : Int)) = true := decide_eq_true (by omega)
          have c2n : decide (i < x.length) = true := decide_eq_true hlt
          have hnx : wrap64 ((i : Int) + 1) = ((i + 1 : Nat) : Int) := by have := HL.out; rw [w64 (by omega) (by omega)]; simp
          obtain ⟨ad1, e1, hx1⟩ := Kd.at_int HCC.out.1 (i : Int) (by omega) (by rw [HAL.out]; omega)
          obtain ⟨ad2, e2, hx2⟩ := Kd.at_int HCC.out.2 (i : Int) (by omega) (by rw [HBL.out]; omega)
          subst e1
          subst e2
          rw [Int.toNat_natCast, rd_get] at hx1 hx2
          rw [HSH.out i hlt] at hx2
          obtain ⟨va, hva⟩ : ∃ va, va = a.getD i 0 := ⟨_, rfl⟩
          rw [← hva] at hx1 hx2
          have HX1 := Aside0.mk hnx
          have c4 := eq_true hlt
          have c5 := eq_true (show (i : Int) < (x.length : Int) by omega)
          have c6 := eq_true (show 0 ≤ (i : Int) by omega)
          have HLT := Aside0.mk hlt
          clear hnx hlt hva
          by_cases hi0 : i = 0
          · rw [if_pos hi0] at hx2
            have hb0 : ((i : Int) == 0) = true := by rw [hi0]; rfl
            clear hi0
            go_wp2
            go_roundg k1
            case measure => omega
            case rel => exact ⟨i + 1, (by first | rfl | rw [HX1.out]), ⟨by have := HI2.out; omega⟩, HCC, HB⟩
          · rw [if_neg hi0] at hx2
            have hb0 : ((i : Int) == 0) = false := by rw [beq_eq_false_iff_ne]; omega
            by_cases hi1 : i = 1
            · rw [if_pos hi1] at hx2
              have hb1 : ((i : Int) == 1) = true := by rw [hi1]; rfl
              clear hi0 hi1
              go_wp2
              go_roundg k1
              case measure => omega
              case rel => exact ⟨i + 1, (by first | rfl | rw [HX1.out]), ⟨by have := HI2.out; omega⟩, HCC, HB⟩
            · rw [if_neg hi1] at hx2
              have hb1 : ((i : Int) == 1) = false := by rw [beq_eq_false_iff_ne]; omega
              clear hi0 hi1
              go_wp2
              go_roundg k1
              case measure => omega
              case rel => exact ⟨i + 1, (by first | rfl | rw [HX1.out]), ⟨by have := HI2.out; omega⟩, HCC, HB⟩
        · have c2b : decide ((i : Int) < (x.length : Int)) = false := decide_eq_false (by omega)
          have c2n : decide (i < x.length) = false := decide_eq_false hlt
          clear hlt
          go_wp2
          go_ret
          exact ⟨rfl, HB.out⟩
end Go.Proofs.Ythkpnnbjcendcaa.X
