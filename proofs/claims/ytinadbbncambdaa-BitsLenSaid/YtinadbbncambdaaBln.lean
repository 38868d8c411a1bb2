/- The law BitsLen, walked. -/
import Derived.Test.YtinadbbncambdaaBsw
namespace Go.Proofs.Ytinadbbncambdaa.X
open Go.RowKit Go.Proofs.YtinadbbncambdaaW.PrintWords Go.Proofs.YtinadbbncambdaaW.PrintLast Go.Proofs.YtinadbbncambdaaW.PrintMore
attribute [local go_sem] max2_int min2_int max_two min_two max_three min_three max_four min_four
set_option linter.unusedVariables false
set_option linter.unusedSimpArgs false

def marigraphlaw02_BitsLen.l0 : Nat → List S34 → List Int → Int → Int → Int → Option Bool
  | 0, _, _, _, _, _ => none
  | k + 1, l, bs, many, n, i => if i < (l.length : Int) then (if 0 ≤ i then (if i < 100 then ((bits_Bits_Put.f k bs many (rd_T34 l i).f0 (rd_T34 l i).f1).bind fun t => if t.1 = 0 then marigraphlaw02_BitsLen.l0 k l t.2.1 t.2.2 (wrap64 (n + (rd_T34 l i).f1)) (wrap64 (i + 1)) else marigraphlaw02_BitsLen.l0 k l t.2.1 t.2.2 n (wrap64 (i + 1))) else marigraphlaw02_BitsLen.l0 k l bs many n (wrap64 (i + 1))) else none) else (if many = n then ((slices_Clone_byte_byte.f bs).bind fun y => some ((y.length : Int) == wrap64 (Int.tdiv (wrap64 (n + 7)) 8))) else some false)
def marigraphlaw02_BitsLen.f (k : Nat) (l : List S34) : Option Bool := marigraphlaw02_BitsLen.l0 k l [] 0 0 0
set_option maxHeartbeats 8000000 in
set_option maxRecDepth 100000 in
theorem marigraphlaw02_BitsLen.calls (k : Nat) (A0 : Option Addr) (c0 : Nat) (l0 : List S34) (r : Bool) (w : World) (hr0 : Kd.C k34 w A0 l0.length l0) (hc0 : l0.length ≤ c0) (h : marigraphlaw02_BitsLen.f k l0 = some r) :
    Calls Try.prog 7 #[.slice A0 l0.length c0] w fun e w' => e = .returned (.bool r) ∧ Below w.heap.size w w' := by
  have hu34 := Try.underlying34
  have hu26 := Try.underlying26
  have HR0 := Aside0.mk hr0
  have HC0 := Aside0.mk hc0
  have HB := Aside0.mk (Below.refl w.heap.size w)
  have H' := Aside0.mk h
  clear hr0 hc0 h
  go_enter Try.func7, Try.ntmps7
  go_wp2_with (first
    | ((with_reducible refine gate_dst (N := 4) rfl ?_); (try (refine gate_guard (by rfl) ?_; dsimp only)); refine box_event ?hg (N := 4) ?hd (cs := #[.slice none 0 0, .int .i64 0]) (t := 26) ?hr ?_; (case hd => rfl); (case hg => rfl); (case hr => first | (go_simp; done) | (go_simp; rfl)); intro g hg w1 hbox hb; have n1_ := Aside0.mk ((by rw [hg]; exact (below_size (by repeat (first | (with_reducible first | exact HB.out | apply below_alloc | apply pw_below_drewN | apply below_drew1) | exact HB.out))) : w.heap.size ≤ g)); have n0_ := Aside0.mk (below_step (by repeat (first | (with_reducible first | exact HB.out | apply below_alloc | apply pw_below_drewN | apply below_drew1) | exact HB.out)) hb); have n2_ := Aside0.mk hbox; have n3_ := Aside0.mk (Kd.R_nil (Kd.int .u8) 5 w1 w.heap.size (fun k_ => k_ ≠ g)); clear HB; have HB := n0_; have HG := n1_; have BK := n2_; have HO := n3_; clear n0_ n1_ n2_ n3_ hb hbox hg)
    | ((with_reducible refine gate_dst (N := 8) rfl ?_); refine goesL_ (some 8) rfl rfl Try.func18 (by kernel_rfl) rfl #[] rfl (by (try simp only [List.map_toArray, List.map_cons, List.map_nil]); first | done | rfl) ?_; (with_reducible refine (marigraphlaw02_shown.calls true _ rfl).mono ?_); rintro e w2 ⟨rfl, hb⟩; refine ⟨_, rfl, ?_⟩; have n0_ := Aside0.mk (below_step (by repeat (first | (with_reducible first | exact HB.out | apply below_alloc | apply pw_below_drewN | apply below_drew1) | exact HB.out)) hb); clear HB; have HB := n0_; clear n0_ hb))
  go_loopg [5, 11] k (fun kq v5 v11 w' => ∃ (u0 : Value) (bs : List Int) (many : Int) (n : Int) (i : Int), v5 = .int .i64 n ∧ v11 = .int .i64 i ∧ Aside0 (marigraphlaw02_BitsLen.l0 kq l0 bs many n i = some r) ∧ Aside0 (Kd.R (Kd.int .u8) 5 w' w.heap.size (fun k_ => k_ ≠ g) u0 bs) ∧ Aside0 (w'.heap[g]? = some (.cells #[u0, .int .i64 many] 26 (0, 0))) ∧ Aside0 (Below w.heap.size w w'))
  case atStart => exact ⟨.slice none 0 0, [], 0, 0, 0, rfl, rfl, H', ⟨by (with_reducible repeat (first | apply Kd.R_alloc | apply Kd.R_drewN | apply Kd.R_drew)); exact HO.out⟩, ⟨by (with_reducible repeat (first | refine blk_drewN ?_ _ | refine blk_drew ?_ | refine blk_alloc ?_ _)); exact BK.out⟩, ⟨by repeat (first | (with_reducible first | exact HB.out | apply below_alloc | apply pw_below_drewN | apply below_drew1) | exact HB.out)⟩⟩
  case round =>
    clear H' HO BK HB
    obtain ⟨u0, bs, many, n, i, rfl, rfl, HA, HO, BK, HB⟩ := hrel
    cases gk with
    | zero => exact absurd HA.out (by simp [marigraphlaw02_BitsLen.l0])
    | succ k1 =>
      have H := HA.out
      clear HA
      simp only [marigraphlaw02_BitsLen.l0] at H
      by_cases c1 : i < (l0.length : Int)
      · rw [if_pos c1] at H
        have c1b0 : decide (i < (l0.length : Int)) = true := decide_eq_true c1
        by_cases c2 : 0 ≤ i
        · rw [if_pos c2] at H
          obtain ⟨ad, e1, hx0, hx1⟩ := at_T34 HR0.out i c2 c1
          cases e1
          replace hx0 := (HB.out.cell (World.block_lt_of_cell? w _ hx0)).trans hx0
          replace hx1 := (HB.out.cell (World.block_lt_of_cell? w _ hx1)).trans hx1
          replace c2 := eq_true c2
          replace c1 := eq_true c1
          by_cases c3 : i < 100
          · rw [if_pos c3] at H
            have c3b0 : decide (i < 100) = true := decide_eq_true c3
            replace H := Option.bind_eq_some_iff.mp H
            obtain ⟨⟨r1, r2, r3⟩, A0_, H⟩ := H
            have A1 := Aside0.mk A0_
            clear A0_
            by_cases c4 : r1 = 0
            · have H1 : marigraphlaw02_BitsLen.l0 k1 l0 r2 r3 (wrap64 (n + (rd_T34 l0 i).f1)) (wrap64 (i + 1)) = some r := (if_pos c4).symm.trans H
              have c4b0 : (r1 == 0) = true := by simpa using c4
              have H' := Aside0.mk H1
              clear H H1 c4
              go_wp2_with (first
              | ((with_reducible refine gate_dst (N := 7) rfl ?_); (try (refine gate_guard (by rfl) ?_; dsimp only)); refine box_event ?hg (N := 7) ?hd (cs := #[.int .u64 0, .int .i64 0]) (t := 34) ?hr ?_; (case hd => rfl); (case hg => rfl); (case hr => first | (go_simp; done) | (go_simp; rfl)); intro gp hgp w5 hbox hb; have n0_ := Aside0.mk (below_step HB.out hb); have n1_ := Aside0.mk (blk_below BK.out hb); have n2_ := Aside0.mk (Kd.R_below (Kd.R_elderB HO.out gp (Nat.le_of_eq hgp.symm)) hb); have n5_ := Aside0.mk (show w.heap.size ≤ gp from by rw [hgp]; exact below_size HB.out); have n3_ := Aside0.mk hbox; have n4_ := Aside0.mk (show gp ≠ g from by rw [hgp]; exact Nat.ne_of_gt (blk_lt BK.out)); have hc0 : w5.cell? ⟨gp, 0, none⟩ = some (.int .u64 0) := (blk_cell hbox 0).trans rfl; have hc1 : w5.cell? ⟨gp, 1, none⟩ = some (.int .i64 0) := (blk_cell hbox 1).trans rfl; have hf0 := blk_frozen hbox 0; have hf1 := blk_frozen hbox 1; clear HB BK HO; have HB := n0_; have BK := n1_; have HO := n2_; have BP := n3_; have NP := n4_; have GP := n5_; clear n0_ n1_ n2_ n3_ n4_ n5_ hb hgp hbox)
              | (go_at_call 20; refine (bits_Bits_Put.calls k1 g u0 bs many _ _ r1 r2 r3 w _ (below_set (below_set HB.out GP.out (j := 0) (v := .int .u64 (rd_T34 l0 i).f0)) GP.out (j := 1) (v := .int .i64 (rd_T34 l0 i).f1)) HG.out (blk_far (blk_far BK.out (p := ⟨gp, 0, none⟩) (Ne.symm NP.out) (.int .u64 (rd_T34 l0 i).f0)) (p := ⟨gp, 1, none⟩) (Ne.symm NP.out) (.int .i64 (rd_T34 l0 i).f1)) (Kd.R_mono (Kd.R_far (p := ⟨gp, 1, none⟩) (Kd.R_far (p := ⟨gp, 0, none⟩) HO.out (fun _ hk => hk.2) (.int .u64 (rd_T34 l0 i).f0)) (fun _ hk => hk.2) (.int .i64 (rd_T34 l0 i).f1)) (fun _ hk => hk.1)) A1.out).mono ?_; rintro e w6 ⟨v1, rfl, hbox, ho, hb, hk⟩; have n0_ := Aside0.mk (Kd.R_mono ho (fun k_ hk_ => hk_.1)); have hp := blk_kept (blk_put (blk_put BP.out 0 (.int .u64 (rd_T34 l0 i).f0) rfl) 1 (.int .i64 (rd_T34 l0 i).f1) (cs' := #[.int .u64 (rd_T34 l0 i).f0, .int .i64 (rd_T34 l0 i).f1]) rfl) hk (fun hS => hS.elim NP.out (Kd.R_away HO.out (fun _ hk_ => hk_.2))); have hp1 : w6.cell? ⟨gp, 1, none⟩ = some (.int .i64 (rd_T34 l0 i).f1) := (blk_cell hp 1).trans rfl; clear HO BK HB hk hp BP; have HO := n0_; have BK := Aside0.mk hbox; have HB := Aside0.mk hb; clear n0_ ho hbox hb))
              go_roundg k1
              case measure => omega
              case rel => exact ⟨v1, r2, r3, _, wrap64 (i + 1), rfl, rfl, H', ⟨HO.out⟩, ⟨BK.out⟩, ⟨HB.out⟩⟩
            · have H1 : marigraphlaw02_BitsLen.l0 k1 l0 r2 r3 n (wrap64 (i + 1)) = some r := (if_neg c4).symm.trans H
              have c4b0 : (r1 == 0) = false := by simpa using c4
              have H' := Aside0.mk H1
              clear H H1 c4
              go_wp2_with (first
              | ((with_reducible refine gate_dst (N := 7) rfl ?_); (try (refine gate_guard (by rfl) ?_; dsimp only)); refine box_event ?hg (N := 7) ?hd (cs := #[.int .u64 0, .int .i64 0]) (t := 34) ?hr ?_; (case hd => rfl); (case hg => rfl); (case hr => first | (go_simp; done) | (go_simp; rfl)); intro gp hgp w5 hbox hb; have n0_ := Aside0.mk (below_step HB.out hb); have n1_ := Aside0.mk (blk_below BK.out hb); have n2_ := Aside0.mk (Kd.R_below (Kd.R_elderB HO.out gp (Nat.le_of_eq hgp.symm)) hb); have n5_ := Aside0.mk (show w.heap.size ≤ gp from by rw [hgp]; exact below_size HB.out); have n3_ := Aside0.mk hbox; have n4_ := Aside0.mk (show gp ≠ g from by rw [hgp]; exact Nat.ne_of_gt (blk_lt BK.out)); have hc0 : w5.cell? ⟨gp, 0, none⟩ = some (.int .u64 0) := (blk_cell hbox 0).trans rfl; have hc1 : w5.cell? ⟨gp, 1, none⟩ = some (.int .i64 0) := (blk_cell hbox 1).trans rfl; have hf0 := blk_frozen hbox 0; have hf1 := blk_frozen hbox 1; clear HB BK HO; have HB := n0_; have BK := n1_; have HO := n2_; have BP := n3_; have NP := n4_; have GP := n5_; clear n0_ n1_ n2_ n3_ n4_ n5_ hb hgp hbox)
              | (go_at_call 20; refine (bits_Bits_Put.calls k1 g u0 bs many _ _ r1 r2 r3 w _ (below_set (below_set HB.out GP.out (j := 0) (v := .int .u64 (rd_T34 l0 i).f0)) GP.out (j := 1) (v := .int .i64 (rd_T34 l0 i).f1)) HG.out (blk_far (blk_far BK.out (p := ⟨gp, 0, none⟩) (Ne.symm NP.out) (.int .u64 (rd_T34 l0 i).f0)) (p := ⟨gp, 1, none⟩) (Ne.symm NP.out) (.int .i64 (rd_T34 l0 i).f1)) (Kd.R_mono (Kd.R_far (p := ⟨gp, 1, none⟩) (Kd.R_far (p := ⟨gp, 0, none⟩) HO.out (fun _ hk => hk.2) (.int .u64 (rd_T34 l0 i).f0)) (fun _ hk => hk.2) (.int .i64 (rd_T34 l0 i).f1)) (fun _ hk => hk.1)) A1.out).mono ?_; rintro e w6 ⟨v1, rfl, hbox, ho, hb, hk⟩; have n0_ := Aside0.mk (Kd.R_mono ho (fun k_ hk_ => hk_.1)); have hp := blk_kept (blk_put (blk_put BP.out 0 (.int .u64 (rd_T34 l0 i).f0) rfl) 1 (.int .i64 (rd_T34 l0 i).f1) (cs' := #[.int .u64 (rd_T34 l0 i).f0, .int .i64 (rd_T34 l0 i).f1]) rfl) hk (fun hS => hS.elim NP.out (Kd.R_away HO.out (fun _ hk_ => hk_.2))); have hp1 : w6.cell? ⟨gp, 1, none⟩ = some (.int .i64 (rd_T34 l0 i).f1) := (blk_cell hp 1).trans rfl; clear HO BK HB hk hp BP; have HO := n0_; have BK := Aside0.mk hbox; have HB := Aside0.mk hb; clear n0_ ho hbox hb))
              go_roundg k1
              case measure => omega
              case rel => exact ⟨v1, r2, r3, n, wrap64 (i + 1), rfl, rfl, H', ⟨HO.out⟩, ⟨BK.out⟩, ⟨HB.out⟩⟩
          · rw [if_neg c3] at H
            have c3b0 : decide (i < 100) = false := decide_eq_false c3
            have H' := Aside0.mk H
            clear H
            go_wp2_with (first
              | ((with_reducible refine gate_dst (N := 7) rfl ?_); (try (refine gate_guard (by rfl) ?_; dsimp only)); refine box_event ?hg (N := 7) ?hd (cs := #[.int .u64 0, .int .i64 0]) (t := 34) ?hr ?_; (case hd => rfl); (case hg => rfl); (case hr => first | (go_simp; done) | (go_simp; rfl)); intro gp hgp w5 hbox hb; have n0_ := Aside0.mk (below_step HB.out hb); have n1_ := Aside0.mk (blk_below BK.out hb); have n2_ := Aside0.mk (Kd.R_below (Kd.R_elderB HO.out gp (Nat.le_of_eq hgp.symm)) hb); have n5_ := Aside0.mk (show w.heap.size ≤ gp from by rw [hgp]; exact below_size HB.out); have n3_ := Aside0.mk hbox; have n4_ := Aside0.mk (show gp ≠ g from by rw [hgp]; exact Nat.ne_of_gt (blk_lt BK.out)); have hc0 : w5.cell? ⟨gp, 0, none⟩ = some (.int .u64 0) := (blk_cell hbox 0).trans rfl; have hc1 : w5.cell? ⟨gp, 1, none⟩ = some (.int .i64 0) := (blk_cell hbox 1).trans rfl; have hf0 := blk_frozen hbox 0; have hf1 := blk_frozen hbox 1; clear HB BK HO; have HB := n0_; have BK := n1_; have HO := n2_; have BP := n3_; have NP := n4_; have GP := n5_; clear n0_ n1_ n2_ n3_ n4_ n5_ hb hgp hbox))
            go_roundg k1
            case measure => omega
            case rel => exact ⟨u0, bs, many, n, wrap64 (i + 1), rfl, rfl, H', ⟨Kd.R_mono (Kd.R_far (p := ⟨gp, 1, none⟩) (Kd.R_far (p := ⟨gp, 0, none⟩) HO.out (fun _ hk => hk.2) _) (fun _ hk => hk.2) _) (fun _ hk => hk.1)⟩, ⟨blk_far (blk_far BK.out (p := ⟨gp, 0, none⟩) (Ne.symm NP.out) _) (p := ⟨gp, 1, none⟩) (Ne.symm NP.out) _⟩, ⟨below_set (below_set HB.out GP.out) GP.out⟩⟩
        · rw [if_neg c2] at H
          exact absurd H (by simp)
      · rw [if_neg c1] at H
        have c1b0 : decide (i < (l0.length : Int)) = false := decide_eq_false c1
        by_cases c5 : many = n
        · rw [if_pos c5] at H
          replace H := Option.bind_eq_some_iff.mp H
          obtain ⟨y, Ay0, H⟩ := H
          have Ay := Aside0.mk Ay0
          clear Ay0
          obtain rfl := Option.some.inj H
          have c5b0 : (many == n) = true := by simpa using c5
          clear c5 H
          go_wp2_with (first
            | (go_at_call 22; (with_reducible refine (bits_Bits_Len.calls g u0 many _ BK.out).mono ?_); rintro e w8 ⟨rfl, hb⟩; have n0_ := Aside0.mk (below_step HB.out hb); have n1_ := Aside0.mk (blk_below BK.out hb); have n2_ := Aside0.mk (Kd.R_below HO.out hb); clear HB BK HO; have HB := n0_; have BK := n1_; have HO := n2_; clear n0_ n1_ n2_ hb)
            | (go_at_call 23; (with_reducible refine (bits_Bits_Bytes.calls g _ u0 bs many y _ _ BK.out HO.out Ay.out).mono ?_); rintro e w9 ⟨v2, rfl, ho, hb⟩; obtain ⟨A2, c2_, e2⟩ := Kd.R_slice ho; subst e2; have n0_ := Aside0.mk (below_step HB.out hb); clear HB; have HB := n0_; clear n0_ hb ho))
          go_ret
          exact ⟨rfl, (by repeat (first | (with_reducible first | exact HB.out | apply below_alloc | apply pw_below_drewN | apply below_drew1) | exact HB.out))⟩
        · rw [if_neg c5] at H
          obtain rfl := Option.some.inj H
          have c5b0 : (many == n) = false := by simpa using c5
          clear c5 H
          go_wp2_with (first
            | (go_at_call 22; (with_reducible refine (bits_Bits_Len.calls g u0 many _ BK.out).mono ?_); rintro e w8 ⟨rfl, hb⟩; have n0_ := Aside0.mk (below_step HB.out hb); have n1_ := Aside0.mk (blk_below BK.out hb); have n2_ := Aside0.mk (Kd.R_below HO.out hb); clear HB BK HO; have HB := n0_; have BK := n1_; have HO := n2_; clear n0_ n1_ n2_ hb))
          go_ret
          exact ⟨rfl, (by repeat (first | (with_reducible first | exact HB.out | apply below_alloc | apply pw_below_drewN | apply below_drew1) | exact HB.out))⟩
end Go.Proofs.Ytinadbbncambdaa.X
