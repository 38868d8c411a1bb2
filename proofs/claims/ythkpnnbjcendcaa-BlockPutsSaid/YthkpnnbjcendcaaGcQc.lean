/- Spt, Bof, Sw4, Ssc, Rpt, put together. -/
import Derived.Test.YthkpnnbjcendcaaGbQc
import Derived.Test.YthkpnnbjcendcaaX0Qc
section
/- steps.Put, walked. -/
set_option linter.unusedVariables false
set_option linter.unusedSimpArgs false
open Go.RowKit Go.Proofs.Ythkpnnbjcendcaa.X Go.Proofs.Ythkpnnbjcendcaa.Pl Go.Proofs.Ythkpnnbjcendcaa.Sp Go.Proofs.Ythkpnnbjcendcaa.Pure Go.Proofs.YthkpnnbjcendcaaW.PrintWords Go.Proofs.YthkpnnbjcendcaaW.PrintLast Go.Proofs.YthkpnnbjcendcaaW.PrintMore
namespace Go.Proofs.Ythkpnnbjcendcaa.Sc
theorem right_calls (A0 : Option Addr) (c0 : Nat) (l0 : List S52) (w : World) (hr0 : Kd.C k52 w A0 l0.length l0) (hc0 : l0.length ≤ c0) (hl : l0.length < 4611686018427387904) :
    Calls Try.prog 33 #[.slice A0 l0.length c0] w fun e w' => e = .returned (.bool (rightB l0)) ∧ Below w.heap.size w w' := by
  obtain ⟨K, hK⟩ := right_ev l0 hl
  refine (steps_Right.calls K A0 c0 l0 _ w hr0 hc0 (hK K (Nat.le_refl _))).mono ?_
  rintro e w' ⟨rfl, hd⟩
  exact ⟨rfl, hd.below⟩
set_option maxHeartbeats 8000000 in
set_option maxRecDepth 100000 in
theorem sput_calls (A0 : Option Addr) (c0 : Nat) (l0 : List S52) (w : World) (hr0 : Kd.C k52 w A0 l0.length l0) (hc0 : l0.length ≤ c0) (hl : l0.length < 4611686018427387904) (hf : fitP l0) :
    Calls Try.prog 29 #[.slice A0 l0.length c0] w fun e w' => ∃ v, e = .returned (.tuple #[v, .int .i64 (putR l0).2]) ∧ Kd.R (Kd.int .u8) 5 w' w.heap.size (fun _ => True) v (putR l0).1 ∧ Below w.heap.size w w' := by
  have HB := Aside0.mk (Below.refl w.heap.size w)
  have HS := Aside0.mk (Sep.nil w.heap.size w)
  have HR := Aside0.mk hr0
  have HC := Aside0.mk hc0
  have HL := Aside0.mk hl
  have HF := Aside0.mk hf
  clear hr0 hc0 hl hf
  by_cases h1 : l0.length > 1024
  · have h1b : decide (1024 < (l0.length : Int)) = true := decide_eq_true (by omega)
    have h1n : decide (1024 < l0.length) = true := decide_eq_true h1
    have HE := Aside0.mk (show putR l0 = ([], 3) by unfold putR; rw [if_pos h1])
    clear h1
    go_enter Try.func29, Try.ntmps29
    go_wp2
    go_ret2
    refine ⟨.slice none 0 0, by rw [HE.out]; rfl, ?_, (by repeat (first | (with_reducible first | exact HB.out | apply below_alloc | apply pw_below_drewN | apply below_drew1) | exact HB.out))⟩
    rw [HE.out]
    exact Kd.R_nil _ _ _ _ _
  · have h1b : decide (1024 < (l0.length : Int)) = false := decide_eq_false (by omega)
    have h1n : decide (1024 < l0.length) = false := decide_eq_false h1
    have H1 := Aside0.mk h1
    by_cases h2 : rightB l0 = false
    · have HE := Aside0.mk (show putR l0 = ([], 1) by unfold putR; rw [if_neg h1, if_pos h2])
      clear h1
      go_enter Try.func29, Try.ntmps29
      go_wp2_with (first
        | (go_at_call 33; (with_reducible refine (right_calls A0 c0 l0 _ HR.out HC.out HL.out).mono ?_); rintro e w1 ⟨rfl, hb⟩; have n0_ := Aside0.mk (below_step (by repeat (first | (with_reducible first | exact HB.out | apply below_alloc | apply pw_below_drewN | apply below_drew1) | exact HB.out)) hb); have n1_ := Aside0.mk (Sep.below (by repeat (first | (with_reducible first | exact HS.out | apply sep_alloc | apply sep_drewN | apply sep_drew) | exact HS.out)) hb); clear HB HS; have HB := n0_; have HS := n1_; clear n0_ n1_ hb))
      go_ret2
      refine ⟨.slice none 0 0, by rw [HE.out]; rfl, ?_, (by repeat (first | (with_reducible first | exact HB.out | apply below_alloc | apply pw_below_drewN | apply below_drew1) | exact HB.out))⟩
      rw [HE.out]
      exact Kd.R_nil _ _ _ _ _
    · have HE := Aside0.mk (show putR l0 = (putB l0, 0) by unfold putR; rw [if_neg h1, if_neg h2])
      have h2t : rightB l0 = true := by simpa using h2
      have hcv : IntKind.u64.wrap (l0.length : Int) = (l0.length : Int) := w_u64 (by omega) (by omega)
      clear h1 h2
      go_enter Try.func29, Try.ntmps29
      go_wp2_with (first
        | (go_at_call 33; (with_reducible refine (right_calls A0 c0 l0 _ HR.out HC.out HL.out).mono ?_); rintro e w1 ⟨rfl, hb⟩; have n0_ := Aside0.mk (below_step (by repeat (first | (with_reducible first | exact HB.out | apply below_alloc | apply pw_below_drewN | apply below_drew1) | exact HB.out)) hb); have n1_ := Aside0.mk (Sep.below (by repeat (first | (with_reducible first | exact HS.out | apply sep_alloc | apply sep_drewN | apply sep_drew) | exact HS.out)) hb); clear HB HS; have HB := n0_; have HS := n1_; clear n0_ n1_ hb)
        | ((with_reducible refine gate_dst (N := 4) rfl ?_); (try (refine gate_guard (by rfl) ?_; dsimp only)); refine box_event ?hg (N := 4) ?hd (cs := #[.slice none 0 0, .int .i64 0]) (t := 26) ?hr ?_; (case hd => rfl); (case hg => rfl); (case hr => first | (go_simp; done) | (go_simp; rfl)); intro g hg w3 hbox hb; obtain ⟨F0, hs0⟩ := Sep.newbits (by repeat (first | (with_reducible first | exact HS.out | apply sep_alloc | apply sep_drewN | apply sep_drew) | exact HS.out)) hb (Nat.le_of_eq hg.symm) (below_size (by repeat (first | (with_reducible first | exact HB.out | apply below_alloc | apply pw_below_drewN | apply below_drew1) | exact HB.out))) hbox; have n0_ := Aside0.mk (below_step (by repeat (first | (with_reducible first | exact HB.out | apply below_alloc | apply pw_below_drewN | apply below_drew1) | exact HB.out)) hb); clear HB HS hg hbox hb; have HB := n0_; have HS := Aside0.mk hs0; clear n0_ hs0)
        | ((with_reducible refine gate_dst (N := 5) rfl ?_); (try (refine gate_guard (by rfl) ?_; dsimp only)); refine box_event ?hg (N := 5) ?hd (cs := #[.int .i64 0, .int .i64 0]) (t := 87) ?hr ?_; (case hd => rfl); (case hg => rfl); (case hr => first | (go_simp; done) | (go_simp; rfl)); intro gt hg w4 hbox hb; have n0_ := Aside0.mk (below_step (by repeat (first | (with_reducible first | exact HB.out | apply below_alloc | apply pw_below_drewN | apply below_drew1) | exact HB.out)) hb); have n1_ := Aside0.mk (Sep.newbox (by repeat (first | (with_reducible first | exact HS.out | apply sep_alloc | apply sep_drewN | apply sep_drew) | exact HS.out)) hb (Nat.le_of_eq hg.symm) (below_size (by repeat (first | (with_reducible first | exact HB.out | apply below_alloc | apply pw_below_drewN | apply below_drew1) | exact HB.out))) hbox); clear HB HS; have HB := n0_; have HS := n1_; clear n0_ n1_ hb hbox hg)
        | ((with_reducible refine gate_dst (N := 6) rfl ?_); (try (refine gate_guard (by rfl) ?_; dsimp only)); refine box_event ?hg (N := 6) ?hd (cs := #[.int .i64 0, .int .i64 0]) (t := 87) ?hr ?_; (case hd => rfl); (case hg => rfl); (case hr => first | (go_simp; done) | (go_simp; rfl)); intro gv hg w5 hbox hb; have n0_ := Aside0.mk (below_step (by repeat (first | (with_reducible first | exact HB.out | apply below_alloc | apply pw_below_drewN | apply below_drew1) | exact HB.out)) hb); have n1_ := Aside0.mk (Sep.newbox (by repeat (first | (with_reducible first | exact HS.out | apply sep_alloc | apply sep_drewN | apply sep_drew) | exact HS.out)) hb (Nat.le_of_eq hg.symm) (below_size (by repeat (first | (with_reducible first | exact HB.out | apply below_alloc | apply pw_below_drewN | apply below_drew1) | exact HB.out))) hbox); clear HB HS; have HB := n0_; have HS := n1_; clear n0_ n1_ hb hbox hg))
      go_loopg [19] l0.length (fun kq v19 w' => ∃ (j : Nat) (a b c d : Int) (L : List Bool) (F : Nat → Prop), v19 = .int .i64 (j : Int) ∧ Aside0 (kq + j = l0.length ∧ L.length ≤ 136 * j ∧ L ++ marksP a b c d (l0.drop j) = marksP 0 0 0 0 l0) ∧ Aside0 (Sep w.heap.size w' [pairR gv c d, pairR gt a b, bitsR w.heap.size g L F]) ∧ Aside0 (Below w.heap.size w w'))
      case atStart => exact ⟨0, 0, 0, 0, 0, [], F0, rfl, ⟨by omega, by simp, by simp⟩, HS, HB⟩
      case round =>
        clear HS HB
        obtain ⟨j, a, b, c, d, L, F, rfl, HI, HS, HB⟩ := hrel
        by_cases hlt : j < l0.length
        · obtain ⟨k1, rfl⟩ : ∃ m, gk = m + 1 := ⟨gk - 1, by have := HI.out; omega⟩
          have c1b : decide ((j : Int) < (l0.length : Int)) = true := decide_eq_true (by omega)
          have c1n : decide (j < l0.length) = true := decide_eq_true hlt
          have hnx : wrap64 ((j : Int) + 1) = ((j + 1 : Nat) : Int) := by have := H1.out; rw [w64 (by omega) (by omega)]; simp
          obtain ⟨ad, e1, hx0, hx1⟩ := at_T52 HR.out (j : Int) (by omega) (by omega)
          cases e1
          rw [Int.toNat_natCast] at hx0 hx1
          replace hx0 := (HB.out.cell (World.block_lt_of_cell? w _ hx0)).trans hx0
          replace hx1 := (HB.out.cell (World.block_lt_of_cell? w _ hx1)).trans hx1
          have hdr := drop52 hlt
          have hfp := HF.out _ (rd52_mem hlt)
          obtain ⟨p, hp⟩ : ∃ p, p = rd_T52 l0 (j : Int) := ⟨_, rfl⟩
          rw [← hp] at hx0 hx1 hdr hfp
          obtain ⟨p0, hp0⟩ : ∃ x, x = p.f0 := ⟨_, rfl⟩
          obtain ⟨p1, hp1⟩ : ∃ x, x = p.f1 := ⟨_, rfl⟩
          rw [← hp0] at hx0
          rw [← hp1] at hx1
          have HP0 := Aside0.mk hp0
          have HP1 := Aside0.mk hp1
          have HDR := Aside0.mk hdr
          have HX := Aside0.mk hnx
          have HLL := Aside0.mk (show L.length + 136 ≤ 262144 by have := HI.out; have := H1.out; omega)
          have c4 := eq_true hlt
          have c5 := eq_true (show (j : Int) < (l0.length : Int) by omega)
          have c6 := eq_true (show 0 ≤ (j : Int) by omega)
          obtain ⟨s0, hs0⟩ : ∃ s, wrap64 (wrap64 (p0 - a) - b) = s := ⟨_, rfl⟩
          obtain ⟨s1, hs1⟩ : ∃ s, wrap64 (wrap64 (p1 - c) - d) = s := ⟨_, rfl⟩
          have HS0 := Aside0.mk hs0
          have HS1 := Aside0.mk hs1
          have HF0 := Aside0.mk (show fits64 s0 from hs0 ▸ fits_wrap _)
          have HF1 := Aside0.mk (show fits64 s1 from hs1 ▸ fits_wrap _)
          clear hnx hlt hdr hfp hp hp0 hp1 hs0 hs1
          go_wp2_with (first
            | ((with_reducible refine gate_dst (N := 8) rfl ?_); (try (refine gate_guard (by rfl) ?_; dsimp only)); refine box_event ?hg (N := 8) ?hd (cs := #[.int .i64 0, .int .i64 0]) (t := 52) ?hr ?_; (case hd => rfl); (case hg => rfl); (case hr => first | (go_simp; done) | (go_simp; rfl)); intro gq hg w5 hbox hb; have n0_ := Aside0.mk (below_step (by repeat (first | (with_reducible first | exact HB.out | apply below_alloc | apply pw_below_drewN | apply below_drew1) | exact HB.out)) hb); have n1_ := Aside0.mk (Sep.newbox (by repeat (first | (with_reducible first | exact HS.out | apply sep_alloc | apply sep_drewN | apply sep_drew) | exact HS.out)) hb (Nat.le_of_eq hg.symm) (below_size (by repeat (first | (with_reducible first | exact HB.out | apply below_alloc | apply pw_below_drewN | apply below_drew1) | exact HB.out))) hbox); clear HB HS; have HB := n0_; have HS := n1_; clear n0_ n1_ hb hbox hg; have hc0 := Sep.c20 HS.out; have hc1 := Sep.c21 HS.out; have hf0 := Sep.free HS.out 0; have hf1 := Sep.free HS.out 1)
            | ((with_reducible refine gate_dst (N := 25) rfl ?_); (try (refine gate_guard (by rfl) ?_; dsimp only)); refine goesL_ (some 25) rfl rfl Try.func64 (by kernel_rfl) rfl #[.pointer (some ⟨gt, 0, none⟩), .int .i64 p0] rfl (by (try simp only [List.map_toArray, List.map_cons, List.map_nil]); first | done | rfl) ?_; (with_reducible refine (next_calls gt a b p0 w _ (below_set (below_set HB.out HS.out.ge (j := 0) (v := .int .i64 p0)) HS.out.ge (j := 1) (v := .int .i64 p1)) (Sep.own (Sep.p3 ((HS.out.s20 (.int .i64 p0)).s21 (.int .i64 p1))))).mono ?_); rintro e w6 ⟨rfl, ht⟩; refine ⟨_, rfl, ?_⟩; rw [HS0.out]; obtain ⟨F_, hs_⟩ := Turned.sep ht (Sep.p3 ((HS.out.s20 (.int .i64 p0)).s21 (.int .i64 p1))) rfl; have n0_ := Aside0.mk (Turned.below ht); clear HB HS ht; have HB := n0_; have HS := Aside0.mk hs_; clear n0_ hs_; clear hc0 hc1 hf0 hf1; have hc1 := Sep.c21 HS.out.p2)
            | ((with_reducible refine gate_dst (N := 26) rfl ?_); (try (refine gate_guard (by rfl) ?_; dsimp only)); refine goesL_ (some 26) rfl rfl Try.func63 (by kernel_rfl) rfl #[.pointer (some ⟨g, 0, none⟩), .int .i64 s0] rfl (by (try simp only [List.map_toArray, List.map_cons, List.map_nil]); first | done | rfl) ?_; (with_reducible refine (mark_calls g F L s0 w _ HB.out HS.out.p4.own HF0.out (by have := HLL.out; omega)).mono ?_); rintro e w7 ⟨rfl, ht⟩; refine ⟨_, rfl, ?_⟩; obtain ⟨F2, hs_⟩ := Turned.sep ht (HS.out.p4) rfl; have n0_ := Aside0.mk (Turned.below ht); clear HB HS ht; have HB := n0_; have HS := Aside0.mk hs_; clear n0_ hs_; clear hc1; have hc1 := Sep.c21 HS.out.p3)
            | ((with_reducible refine gate_dst (N := 29) rfl ?_); (try (refine gate_guard (by rfl) ?_; dsimp only)); refine goesL_ (some 29) rfl rfl Try.func64 (by kernel_rfl) rfl #[.pointer (some ⟨gv, 0, none⟩), .int .i64 p1] rfl (by (try simp only [List.map_toArray, List.map_cons, List.map_nil]); first | done | rfl) ?_; (with_reducible refine (next_calls gv c d p1 w _ HB.out HS.out.p4.own).mono ?_); rintro e w8 ⟨rfl, ht⟩; refine ⟨_, rfl, ?_⟩; rw [HS1.out]; obtain ⟨F_, hs_⟩ := Turned.sep ht (HS.out.p4) rfl; have n0_ := Aside0.mk (Turned.below ht); clear HB HS ht; have HB := n0_; have HS := Aside0.mk hs_; clear n0_ hs_; clear hc1)
            | ((with_reducible refine gate_dst (N := 30) rfl ?_); (try (refine gate_guard (by rfl) ?_; dsimp only)); refine goesL_ (some 30) rfl rfl Try.func63 (by kernel_rfl) rfl #[.pointer (some ⟨g, 0, none⟩), .int .i64 s1] rfl (by (try simp only [List.map_toArray, List.map_cons, List.map_nil]); first | done | rfl) ?_; (with_reducible refine (mark_calls g F2 (L ++ markB s0) s1 w _ HB.out HS.out.p2.own HF1.out (by have := HLL.out; have := markB_length s0; rw [List.length_append]; omega)).mono ?_); rintro e w9 ⟨rfl, ht⟩; refine ⟨_, rfl, ?_⟩; obtain ⟨F3, hs_⟩ := Turned.sep ht (HS.out.p2) rfl; have n0_ := Aside0.mk (Turned.below ht); clear HB HS ht; have HB := n0_; have HS := Aside0.mk hs_; clear n0_ hs_))
          go_roundg k1
          case measure => omega
          case rel => exact ⟨j + 1, p0, wrap64 (p0 - a), p1, wrap64 (p1 - c), L ++ markB s0 ++ markB s1, F3, (by first | rfl | rw [HX.out]), ⟨by have := HI.out; omega, by
            have h1 := markB_length s0
            have h2 := markB_length s1
            have := HI.out
            rw [List.length_append, List.length_append]; omega, by
            rw [← HI.out.2.2, HDR.out, marksP_cons, ← HP0.out, ← HP1.out, HS0.out, HS1.out]
            simp only [List.append_assoc]⟩, ⟨(HS.out.p3.p3).drop4.p3.p3.p3 |> fun h => h.p2 |> fun h => h.p2⟩, HB⟩
        · have c1b : decide ((j : Int) < (l0.length : Int)) = false := decide_eq_false (by omega)
          have c1n : decide (j < l0.length) = false := decide_eq_false hlt
          have hL : L = marksP 0 0 0 0 l0 := by
            have := HI.out.2.2
            rw [List.drop_of_length_le (by omega), marksP_nil, List.append_nil] at this
            exact this
          have HLM := Aside0.mk hL
          have HLN := Aside0.mk (show L.length ≤ 262144 by have := HI.out; have := H1.out; omega)
          have hm : 1 ≤ (varint l0.length).length ∧ (varint l0.length).length ≤ 10 := varint_le 9 _ (by have := H1.out; omega)
          have HVL := Aside0.mk hm
          clear hlt hL hm
          go_wp2_with (first
            | ((with_reducible refine gate_dst (N := 35) rfl ?_); (try (refine gate_guard (by rfl) ?_; dsimp only)); refine goesL_ (some 35) rfl rfl Try.func65 (by kernel_rfl) rfl #[.slice none 0 0, .int .u64 (l0.length : Int)] rfl (by (try simp only [List.map_toArray, List.map_cons, List.map_nil]); first | done | rfl) ?_; (with_reducible refine (oput_nil l0.length _ (by have := H1.out; omega)).mono ?_); rintro e w8 ⟨v, rfl, ho, hb⟩; refine ⟨_, rfl, ?_⟩; obtain ⟨A3, c3, e_⟩ := Kd.R_slice ho; subst e_; obtain ⟨F3, hs_⟩ := Sep.newrow (by repeat (first | (with_reducible first | exact HS.out | apply sep_alloc | apply sep_drewN | apply sep_drew) | exact HS.out)) hb (below_size (by repeat (first | (with_reducible first | exact HB.out | apply below_alloc | apply pw_below_drewN | apply below_drew1) | exact HB.out))) ho; have n0_ := Aside0.mk (below_step (by repeat (first | (with_reducible first | exact HB.out | apply below_alloc | apply pw_below_drewN | apply below_drew1) | exact HB.out)) hb); clear HB HS hb ho; have HB := n0_; have HS := Aside0.mk hs_; clear n0_ hs_)
            | ((with_reducible refine gate_dst (N := 36) rfl ?_); (try (refine gate_guard (by rfl) ?_; dsimp only)); refine goesL_ (some 36) rfl rfl Try.func25 (by kernel_rfl) rfl #[.pointer (some ⟨g, 0, none⟩)] rfl (by (try simp only [List.map_toArray, List.map_cons, List.map_nil]); first | done | rfl) ?_; (with_reducible refine (bytes_calls w.heap.size g F L _ HS.out.p4.own).mono ?_); rintro e w9 ⟨v, rfl, ho, hb⟩; refine ⟨_, rfl, ?_⟩; obtain ⟨A4, c4, e_⟩ := Kd.R_slice ho; subst e_; obtain ⟨F4, hs_⟩ := Sep.newrow (by repeat (first | (with_reducible first | exact HS.out | apply sep_alloc | apply sep_drewN | apply sep_drew) | exact HS.out)) hb (below_size (by repeat (first | (with_reducible first | exact HB.out | apply below_alloc | apply pw_below_drewN | apply below_drew1) | exact HB.out))) ho; have n0_ := Aside0.mk (below_step (by repeat (first | (with_reducible first | exact HB.out | apply below_alloc | apply pw_below_drewN | apply below_drew1) | exact HB.out)) hb); clear HB HS hb ho; have HB := n0_; have HS := Aside0.mk hs_; clear n0_ hs_)
            | ((with_reducible refine gate_builtin (b := .append) (xs := #[.tmp 35, .tmp 36]) rfl ?_); (refine wp_append_row (Kd.int .u8) (w0 := w) rfl (.tmp 35) (.tmp 36) 24 5 (.int .u8 0) 1 rfl Try.underlying24 info5 rfl (by decide) (by omega) (pack L) _ _ _ HS.out.p2 (Kd.R_reads' (Sep.R HS.out)).2.2 (fun _ _ h => h) (by repeat (first | (with_reducible first | exact HB.out | apply below_alloc | apply pw_below_drewN | apply below_drew1) | exact HB.out)) (by have := HVL.out; have := HLN.out; rw [pack_length]; omega) rfl rfl ?_); (intro v_ w_ F_ hs_ hb_); (obtain ⟨O1, hy_⟩ : ∃ y_, y_ = (varint l0.length) ++ (pack L) := ⟨_, rfl⟩; rw [← hy_] at hs_; have HO1 := Aside0.mk hy_; clear hy_ HB HS; have HB := Aside0.mk hb_; have HS := Aside0.mk hs_; clear hs_ hb_; obtain ⟨A_, c_, e_⟩ := Kd.R_slice (Sep.R HS.out); subst e_); (skip)))
          go_ret2
          refine ⟨_, by rw [HE.out]; rfl, ?_, HB.out⟩
          rw [HE.out]
          show Kd.R _ _ _ _ _ _ (putB l0)
          have : O1 = putB l0 := by rw [HO1.out, HLM.out]; rfl
          rw [← this]
          exact Kd.R_mono (Sep.R HS.out) (fun _ _ => trivial)
end Go.Proofs.Ythkpnnbjcendcaa.Sc
end
section
-- By xprint.py and bof.py, out of the translation's own print. Lean checks it.
namespace Go.Proofs.Ythkpnnbjcendcaa.X
open Go.RowKit Go.Proofs.YthkpnnbjcendcaaW.PrintWords Go.Proofs.YthkpnnbjcendcaaW.PrintLast Go.Proofs.YthkpnnbjcendcaaW.PrintMore
attribute [local go_sem] max2_int min2_int max_two min_two max_three min_three max_four min_four   -- for this text's walks alone
set_option linter.unusedVariables false
set_option linter.unusedSimpArgs false

/-! ### marigraphlaw04_bitsOf: function 69 -/
def marigraphlaw04_bitsOf.l0 : Nat → ByteArray → List Int → Int → Int → Option (List Int)
  | 0, _, _, _, _ => none
  | k + 1, x1, x2, x10, x11 => if x11 < x10 then (if 0 ≤ x11 then (if x11 < (x1.size : Int) then (if (bt x1 x11) = 49 then (if 0 ≤ (wrap64 (Int.tdiv x11 8)) then (if (wrap64 (Int.tdiv x11 8)) < (x2.length : Int) then (if 0 ≤ (Int.tmod x11 8) then (marigraphlaw04_bitsOf.l0 k x1 (x2.set ((wrap64 (Int.tdiv x11 8)) : Int).toNat (Go.bits .or .u8 (rd x2 (wrap64 (Int.tdiv x11 8))) (shr .u8 128 (Int.tmod x11 8)))) x10 (wrap64 (x11 + 1))) else (none)) else (none)) else (none)) else (marigraphlaw04_bitsOf.l0 k x1 x2 x10 (wrap64 (x11 + 1)))) else (none)) else (none)) else (some x2)
def marigraphlaw04_bitsOf.f (k : Nat)  : Option (List Int) := if (0 : Int) ≤ ((36 + 7) / 8) then (if ((36 + 7) / 8 : Int).toNat ≤ 281474976710656 then (marigraphlaw04_bitsOf.l0 k (⟨#[49, 48, 48, 48, 48, 49, 48, 49, 48, 49, 48, 48, 48, 48, 49, 49, 49, 48, 49, 48, 48, 48, 48, 48, 49, 49, 49, 49, 48, 48, 48, 48, 49, 49, 48, 49]⟩ : ByteArray) (List.replicate ((36 + 7) / 8 : Int).toNat 0) 36 0) else (none)) else (none)
theorem marigraphlaw04_bitsOf.mono_l : ∀ k, (∀ y0 y1 y2 y3, LeO (marigraphlaw04_bitsOf.l0 k y0 y1 y2 y3) (marigraphlaw04_bitsOf.l0 (k + 1) y0 y1 y2 y3))
  | 0 => fun _ _ _ _ r h => by simp [marigraphlaw04_bitsOf.l0] at h
  | k + 1 => by
    have ih0 := marigraphlaw04_bitsOf.mono_l k
    · intro y0 y1 y2 y3
      unfold marigraphlaw04_bitsOf.l0
      repeat' first
      | (with_reducible exact ih0 _ _ _ _)
      | (with_reducible exact LeO.refl _)
      | (with_reducible exact LeO.none _)
      | (with_reducible refine LeO.ite ?_ ?_)
      | (with_reducible refine LeO.bind ?_ (fun _ => ?_))
      | exact ih0 _ _ _ _
      | exact LeO.none _
      | refine LeO.ite ?_ ?_
      | refine LeO.bind ?_ (fun _ => ?_)
theorem marigraphlaw04_bitsOf.mono : ∀ k, LeO (marigraphlaw04_bitsOf.f k ) (marigraphlaw04_bitsOf.f (k + 1) ) := by
  intro  k
  have ih0 := marigraphlaw04_bitsOf.mono_l k
  unfold marigraphlaw04_bitsOf.f
  repeat' first
      | (with_reducible exact ih0 _ _ _ _)
      | (with_reducible exact LeO.refl _)
      | (with_reducible exact LeO.none _)
      | (with_reducible refine LeO.ite ?_ ?_)
      | (with_reducible refine LeO.bind ?_ (fun _ => ?_))
      | exact ih0 _ _ _ _
      | exact LeO.none _
      | refine LeO.ite ?_ ?_
      | refine LeO.bind ?_ (fun _ => ?_)
end Go.Proofs.Ythkpnnbjcendcaa.X
end
section
/- The head of the laws of layer 4. -/
set_option linter.unusedVariables false
set_option linter.unusedSimpArgs false
open Go.RowKit Go.Proofs.Ythkpnnbjcendcaa.X Go.Proofs.Ythkpnnbjcendcaa.Pl Go.Proofs.Ythkpnnbjcendcaa.Sp Go.Proofs.Ythkpnnbjcendcaa.Pure Go.Proofs.YthkpnnbjcendcaaW.PrintWords Go.Proofs.YthkpnnbjcendcaaW.PrintLast Go.Proofs.YthkpnnbjcendcaaW.PrintMore
namespace Go.Proofs.Ythkpnnbjcendcaa.Sc
end Go.Proofs.Ythkpnnbjcendcaa.Sc
end
section
/- StepsSeconds, walked: Seconds and Firsts are the reference's, and lead back to each other. -/
set_option linter.unusedVariables false
set_option linter.unusedSimpArgs false
open Go.RowKit Go.Proofs.Ythkpnnbjcendcaa.X Go.Proofs.Ythkpnnbjcendcaa.Pl Go.Proofs.Ythkpnnbjcendcaa.Sp Go.Proofs.Ythkpnnbjcendcaa.Sc Go.Proofs.Ythkpnnbjcendcaa.Pure Go.Proofs.YthkpnnbjcendcaaW.PrintWords Go.Proofs.YthkpnnbjcendcaaW.PrintLast Go.Proofs.YthkpnnbjcendcaaW.PrintMore
namespace Go.Proofs.Ythkpnnbjcendcaa.Sc
theorem refsecs_calls (A0 : Option Addr) (c0 : Nat) (l0 : List Int) (w : World) (hr0 : Kd.C (Kd.int .i64) w A0 l0.length l0) (hc0 : l0.length ≤ c0) (hl : l0.length ≤ 1000000) :
    Calls Try.prog 38 #[.slice A0 l0.length c0] w fun e w' => ∃ v, e = .returned v ∧ Kd.R (Kd.int .i64) 3 w' w.heap.size (fun _ => True) v (secs 0 0 l0) ∧ Below w.heap.size w w' := by
  obtain ⟨K, hK⟩ := ref_secs_ev l0 hl
  exact marigraphref04_Seconds.calls K A0 c0 l0 _ w hr0 hc0 (hK K (Nat.le_refl _))
end Go.Proofs.Ythkpnnbjcendcaa.Sc
namespace Go.Proofs.Ythkpnnbjcendcaa.X
end Go.Proofs.Ythkpnnbjcendcaa.X
end
section
/- The reference's Put of points, walked. -/
set_option linter.unusedVariables false
set_option linter.unusedSimpArgs false
open Go.RowKit Go.Proofs.Ythkpnnbjcendcaa.X Go.Proofs.Ythkpnnbjcendcaa.Pl Go.Proofs.Ythkpnnbjcendcaa.Sp Go.Proofs.Ythkpnnbjcendcaa.Pure Go.Proofs.YthkpnnbjcendcaaW.PrintWords Go.Proofs.YthkpnnbjcendcaaW.PrintLast Go.Proofs.YthkpnnbjcendcaaW.PrintMore
namespace Go.Proofs.Ythkpnnbjcendcaa.Sc
theorem refright_calls (A0 : Option Addr) (c0 : Nat) (l0 : List S52) (w : World) (hr0 : Kd.C k52 w A0 l0.length l0) (hc0 : l0.length ≤ c0) (hl : l0.length < 4611686018427387904) :
    Calls Try.prog 34 #[.slice A0 l0.length c0] w fun e w' => e = .returned (.bool (rightB l0)) ∧ Below w.heap.size w w' := by
  obtain ⟨K, hK⟩ := ref_right_ev l0 hl
  refine (marigraphref04_Right.calls K A0 c0 l0 _ w hr0 hc0 (hK K (Nat.le_refl _))).mono ?_
  rintro e w' ⟨rfl, hd⟩
  exact ⟨rfl, hd.below⟩
theorem split_calls (A0 : Option Addr) (c0 : Nat) (l0 : List S52) (w : World) (hr0 : Kd.C k52 w A0 l0.length l0) (hc0 : l0.length ≤ c0) (hl : l0.length ≤ 1000000) :
    Calls Try.prog 66 #[.slice A0 l0.length c0] w fun e w' => ∃ v0_ v1_ : Value, e = .returned (.tuple #[v0_, v1_]) ∧ Kd.R (Kd.int .i64) 3 w' w.heap.size (fun k_ => some k_ ≠ (v1_ : Value).ownBlock) v0_ (l0.map (·.f0)) ∧ Kd.R (Kd.int .i64) 3 w' w.heap.size (fun k_ => some k_ ≠ (v0_ : Value).ownBlock) v1_ (l0.map (·.f1)) ∧ Below w.heap.size w w' := by
  obtain ⟨K, hK⟩ := split_ev l0 hl
  exact marigraphref04_split.calls K A0 c0 l0 _ _ w hr0 hc0 (hK K (Nat.le_refl _))
theorem ref1put_calls (A0 : Option Addr) (c0 : Nat) (b : List Int) (n : Nat) (w : World) (hr0 : Kd.C (Kd.int .u8) w A0 b.length b) (hc0 : b.length ≤ c0) (hl : b.length ≤ 100000000) (hn : n < 2 ^ 64) :
    Calls Try.prog 68 #[.slice A0 b.length c0, .int .u64 (n : Int)] w fun e w' => ∃ v, e = .returned v ∧ Kd.R (Kd.int .u8) 5 w' w.heap.size (fun _ => True) v (b ++ varint n) ∧ Below w.heap.size w w' := by
  obtain ⟨K, hK⟩ := ref_put_ev b n hl hn
  exact marigraphref01_Put.calls K A0 c0 b _ _ w hr0 hc0 (hK K (Nat.le_refl _))
theorem ref1put_nil (n : Nat) (w : World) (hn : n < 2 ^ 64) :
    Calls Try.prog 68 #[.slice none 0 0, .int .u64 (n : Int)] w fun e w' => ∃ v, e = .returned v ∧ Kd.R (Kd.int .u8) 5 w' w.heap.size (fun _ => True) v (varint n) ∧ Below w.heap.size w w' :=
  ref1put_calls none 0 [] n w (Kd.C_nil _ _) (by decide) (by decide) hn
theorem refsecs_n (A0 : Option Addr) (c0 n : Nat) (l0 xs : List Int) (w : World) (hn : l0.length = n) (hx : xs = secs 0 0 l0) (hr0 : Kd.C (Kd.int .i64) w A0 l0.length l0) (hc0 : n ≤ c0) (hl : n ≤ 1000000) :
    Calls Try.prog 38 #[.slice A0 n c0] w fun e w' => ∃ v, e = .returned v ∧ Kd.R (Kd.int .i64) 3 w' w.heap.size (fun _ => True) v xs ∧ Below w.heap.size w w' := by
  subst hn
  subst hx
  exact refsecs_calls A0 c0 l0 w hr0 hc0 hl
set_option maxHeartbeats 8000000 in
set_option maxRecDepth 100000 in
theorem rput_calls (A0 : Option Addr) (c0 : Nat) (l0 : List S52) (w : World) (hr0 : Kd.C k52 w A0 l0.length l0) (hc0 : l0.length ≤ c0) (hl : l0.length < 4611686018427387904) :
    Calls Try.prog 31 #[.slice A0 l0.length c0] w fun e w' => ∃ v, e = .returned (.tuple #[v, .int .i64 (putR l0).2]) ∧ Kd.R (Kd.int .u8) 5 w' w.heap.size (fun _ => True) v (putR l0).1 ∧ Below w.heap.size w w' := by
  have HB := Aside0.mk (Below.refl w.heap.size w)
  have HS := Aside0.mk (Sep.nil w.heap.size w)
  have HR := Aside0.mk hr0
  have HC := Aside0.mk hc0
  have HL := Aside0.mk hl
  clear hr0 hc0 hl
  by_cases h1 : l0.length > 1024
  · have h1b : decide (1024 < (l0.length : Int)) = true := decide_eq_true (by omega)
    have h1n : decide (1024 < l0.length) = true := decide_eq_true h1
    have HE := Aside0.mk (show putR l0 = ([], 3) by unfold putR; rw [if_pos h1])
    clear h1
    go_enter Try.func31, Try.ntmps31
    go_wp2
    go_ret2
    refine ⟨.slice none 0 0, by rw [HE.out]; rfl, ?_, (by repeat (first | (with_reducible first | exact HB.out | apply below_alloc | apply pw_below_drewN | apply below_drew1) | exact HB.out))⟩
    rw [HE.out]
    exact Kd.R_nil _ _ _ _ _
  · have h1b : decide (1024 < (l0.length : Int)) = false := decide_eq_false (by omega)
    have h1n : decide (1024 < l0.length) = false := decide_eq_false h1
    have H1 := Aside0.mk h1
    by_cases h2 : rightB l0 = false
    · have HE := Aside0.mk (show putR l0 = ([], 1) by unfold putR; rw [if_neg h1, if_pos h2])
      clear h1
      go_enter Try.func31, Try.ntmps31
      go_wp2_with (first
        | (go_at_call 34; (with_reducible refine (refright_calls A0 c0 l0 _ HR.out HC.out HL.out).mono ?_); rintro e w1 ⟨rfl, hb⟩; have n0_ := Aside0.mk (below_step (by repeat (first | (with_reducible first | exact HB.out | apply below_alloc | apply pw_below_drewN | apply below_drew1) | exact HB.out)) hb); have n1_ := Aside0.mk (Sep.below (by repeat (first | (with_reducible first | exact HS.out | apply sep_alloc | apply sep_drewN | apply sep_drew) | exact HS.out)) hb); clear HB HS; have HB := n0_; have HS := n1_; clear n0_ n1_ hb))
      go_ret2
      refine ⟨.slice none 0 0, by rw [HE.out]; rfl, ?_, (by repeat (first | (with_reducible first | exact HB.out | apply below_alloc | apply pw_below_drewN | apply below_drew1) | exact HB.out))⟩
      rw [HE.out]
      exact Kd.R_nil _ _ _ _ _
    · have HE := Aside0.mk (show putR l0 = (putB l0, 0) by unfold putR; rw [if_neg h1, if_neg h2])
      have h2t : rightB l0 = true := by simpa using h2
      have hcv : IntKind.u64.wrap (l0.length : Int) = (l0.length : Int) := w_u64 (by omega) (by omega)
      obtain ⟨ts, hts⟩ : ∃ x, x = l0.map (·.f0) := ⟨_, rfl⟩
      obtain ⟨vs, hvs⟩ : ∃ x, x = l0.map (·.f1) := ⟨_, rfl⟩
      obtain ⟨xs, hxs⟩ : ∃ x, x = secs 0 0 ts := ⟨_, rfl⟩
      obtain ⟨ys, hys⟩ : ∃ x, x = secs 0 0 vs := ⟨_, rfl⟩
      have HTS := Aside0.mk hts
      have HVS := Aside0.mk hvs
      have HXS := Aside0.mk hxs
      have HYS := Aside0.mk hys
      have HTL := Aside0.mk (show ts.length = l0.length by rw [hts, List.length_map])
      have HVL := Aside0.mk (show vs.length = l0.length by rw [hvs, List.length_map])
      have HXL := Aside0.mk (show xs.length = l0.length by rw [hxs, secs_length, HTL.out])
      have HYL := Aside0.mk (show ys.length = l0.length by rw [hys, secs_length, HVL.out])
      have HMX := Aside0.mk (show marks xs ys = marksP 0 0 0 0 l0 by rw [hxs, hys, hts, hvs]; rfl)
      have HFX := Aside0.mk (show ∀ i, i < l0.length → fits64 (rd xs (i : Int)) ∧ fits64 (rd ys (i : Int)) from fun i hi => by
        rw [rd_get, rd_get, hxs, hys, secs_get _ _ _ _ (by rw [HTL.out]; exact hi), secs_get _ _ _ _ (by rw [HVL.out]; exact hi)]
        constructor <;> (repeat' split) <;> exact fits_wrap _)
      clear h1 h2 hts hvs hxs hys
      go_enter Try.func31, Try.ntmps31
      go_wp2_with (first
        | (go_at_call 34; (with_reducible refine (refright_calls A0 c0 l0 _ HR.out HC.out HL.out).mono ?_); rintro e w1 ⟨rfl, hb⟩; have n0_ := Aside0.mk (below_step (by repeat (first | (with_reducible first | exact HB.out | apply below_alloc | apply pw_below_drewN | apply below_drew1) | exact HB.out)) hb); have n1_ := Aside0.mk (Sep.below (by repeat (first | (with_reducible first | exact HS.out | apply sep_alloc | apply sep_drewN | apply sep_drew) | exact HS.out)) hb); clear HB HS; have HB := n0_; have HS := n1_; clear n0_ n1_ hb)
        | ((with_reducible refine gate_dst (N := 18) rfl ?_); (try (refine gate_guard (by rfl) ?_; dsimp only)); refine goesL_ (some 18) rfl rfl Try.func66 (by kernel_rfl) rfl #[.slice A0 l0.length c0] rfl (by (try simp only [List.map_toArray, List.map_cons, List.map_nil]); first | done | rfl) ?_; (with_reducible refine (split_calls A0 c0 l0 _ (Kd.C_below HR.out HB.out) HC.out (by have := H1.out; omega)).mono ?_); rintro e w2 ⟨v0, v1, rfl, ho0, ho1, hb⟩; refine ⟨_, rfl, ?_⟩; rw [← HTS.out] at ho0; rw [← HVS.out] at ho1; obtain ⟨A1, c1, e1⟩ := Kd.R_slice ho0; obtain ⟨A2, c2, e2⟩ := Kd.R_slice ho1; rw [HTL.out] at e1; rw [HVL.out] at e2; subst e1 e2; obtain ⟨F1, F2, hs_⟩ := Sep.newrow2 (by repeat (first | (with_reducible first | exact HS.out | apply sep_alloc | apply sep_drewN | apply sep_drew) | exact HS.out)) hb (below_size (by repeat (first | (with_reducible first | exact HB.out | apply below_alloc | apply pw_below_drewN | apply below_drew1) | exact HB.out))) rfl rfl ho0 ho1; have n0_ := Aside0.mk (below_step (by repeat (first | (with_reducible first | exact HB.out | apply below_alloc | apply pw_below_drewN | apply below_drew1) | exact HB.out)) hb); clear HB HS hb ho0 ho1; have HB := n0_; have HS := Aside0.mk hs_; clear n0_ hs_)
        | ((with_reducible refine gate_dst (N := 22) rfl ?_); (try (refine gate_guard (by rfl) ?_; dsimp only)); refine goesL_ (some 22) rfl rfl Try.func38 (by kernel_rfl) rfl #[.slice A1 l0.length c1] rfl (by (try simp only [List.map_toArray, List.map_cons, List.map_nil]); first | done | rfl) ?_; (with_reducible refine (refsecs_n A1 c1 l0.length ts xs _ HTL.out HXS.out (Kd.R_reads' (Sep.R HS.out)).2.2 (Kd.R_reads' (Sep.R HS.out)).2.1 (by have := H1.out; omega)).mono ?_); rintro e w3 ⟨v, rfl, ho, hb⟩; refine ⟨_, rfl, ?_⟩; obtain ⟨A3, c3, e_⟩ := Kd.R_slice ho; rw [HXL.out] at e_; subst e_; obtain ⟨F3, hs_⟩ := Sep.newrow (by repeat (first | (with_reducible first | exact HS.out | apply sep_alloc | apply sep_drewN | apply sep_drew) | exact HS.out)) hb (below_size (by repeat (first | (with_reducible first | exact HB.out | apply below_alloc | apply pw_below_drewN | apply below_drew1) | exact HB.out))) ho; have n0_ := Aside0.mk (below_step (by repeat (first | (with_reducible first | exact HB.out | apply below_alloc | apply pw_below_drewN | apply below_drew1) | exact HB.out)) hb); clear HB HS hb ho; have HB := n0_; have HS := Aside0.mk hs_; clear n0_ hs_)
        | ((with_reducible refine gate_dst (N := 24) rfl ?_); (try (refine gate_guard (by rfl) ?_; dsimp only)); refine goesL_ (some 24) rfl rfl Try.func38 (by kernel_rfl) rfl #[.slice A2 l0.length c2] rfl (by (try simp only [List.map_toArray, List.map_cons, List.map_nil]); first | done | rfl) ?_; (with_reducible refine (refsecs_n A2 c2 l0.length vs ys _ HVL.out HYS.out (Kd.R_reads' (Sep.R HS.out.p3)).2.2 (Kd.R_reads' (Sep.R HS.out.p3)).2.1 (by have := H1.out; omega)).mono ?_); rintro e w4 ⟨v, rfl, ho, hb⟩; refine ⟨_, rfl, ?_⟩; obtain ⟨A4, c4, e_⟩ := Kd.R_slice ho; rw [HYL.out] at e_; subst e_; obtain ⟨F4, hs_⟩ := Sep.newrow (by repeat (first | (with_reducible first | exact HS.out | apply sep_alloc | apply sep_drewN | apply sep_drew) | exact HS.out)) hb (below_size (by repeat (first | (with_reducible first | exact HB.out | apply below_alloc | apply pw_below_drewN | apply below_drew1) | exact HB.out))) ho; have n0_ := Aside0.mk (below_step (by repeat (first | (with_reducible first | exact HB.out | apply below_alloc | apply pw_below_drewN | apply below_drew1) | exact HB.out)) hb); clear HB HS hb ho; have HB := n0_; have HS := Aside0.mk hs_; clear n0_ hs_)
        | ((with_reducible refine gate_dst (N := 26) rfl ?_); (try (refine gate_guard (by rfl) ?_; dsimp only)); refine box_event ?hg (N := 26) ?hd (cs := #[.slice none 0 0]) (t := 30) ?hr ?_; (case hd => rfl); (case hg => rfl); (case hr => first | (go_simp; done) | (go_simp; rfl)); intro g hg w5 hbox hb; obtain ⟨F5, hs0⟩ := Sep.newref (by repeat (first | (with_reducible first | exact HS.out | apply sep_alloc | apply sep_drewN | apply sep_drew) | exact HS.out)) hb (Nat.le_of_eq hg.symm) (below_size (by repeat (first | (with_reducible first | exact HB.out | apply below_alloc | apply pw_below_drewN | apply below_drew1) | exact HB.out))) hbox; have n0_ := Aside0.mk (below_step (by repeat (first | (with_reducible first | exact HB.out | apply below_alloc | apply pw_below_drewN | apply below_drew1) | exact HB.out)) hb); clear HB HS hg hbox hb; have HB := n0_; have HS := Aside0.mk hs0; clear n0_ hs0))
      have n0_ := HS.out.drop4.drop4
      clear HS
      have HS := Aside0.mk n0_
      clear n0_
      go_loopg [9] l0.length (fun kq v9 w' => ∃ (j : Nat) (L : List Bool) (F : Nat → Prop), v9 = .int .i64 (j : Int) ∧ Aside0 (kq + j = l0.length ∧ L.length ≤ 136 * j ∧ L = marks (xs.take j) (ys.take j)) ∧ Aside0 (Sep w.heap.size w' [refR w.heap.size g L F, row F4 (Kd.int .i64) 3 w.heap.size (.slice A4 l0.length c4) ys, row F3 (Kd.int .i64) 3 w.heap.size (.slice A3 l0.length c3) xs]) ∧ Aside0 (Below w.heap.size w w'))
      case atStart => exact ⟨0, [], F5, rfl, ⟨by omega, by simp, by simp [marks]⟩, HS, HB⟩
      case round =>
        clear HS HB
        obtain ⟨j, L, F, rfl, HI, HS, HB⟩ := hrel
        by_cases hlt : j < l0.length
        · obtain ⟨k1, rfl⟩ : ∃ m, gk = m + 1 := ⟨gk - 1, by have := HI.out; omega⟩
          have c1b : decide ((j : Int) < (l0.length : Int)) = true := decide_eq_true (by omega)
          have c1n : decide (j < l0.length) = true := decide_eq_true hlt
          have hnx : wrap64 ((j : Int) + 1) = ((j + 1 : Nat) : Int) := by have := H1.out; rw [w64 (by omega) (by omega)]; simp
          obtain ⟨ad4, e4, hy0⟩ := Kd.at_int (Kd.R_reads' (Sep.R HS.out.p2)).2.2 (j : Int) (by omega) (by rw [HYL.out]; omega)
          obtain ⟨ad3, e3, hx0⟩ := Kd.at_int (Kd.R_reads' (Sep.R HS.out.p3)).2.2 (j : Int) (by omega) (by rw [HXL.out]; omega)
          subst e4
          subst e3
          rw [Int.toNat_natCast] at hx0 hy0
          have hms := marks_step xs ys j (by rw [HXL.out]; exact hlt) (by rw [HYL.out]; exact hlt)
          obtain ⟨s0, hs0⟩ : ∃ s, s = rd xs (j : Int) := ⟨_, rfl⟩
          obtain ⟨s1, hs1⟩ : ∃ s, s = rd ys (j : Int) := ⟨_, rfl⟩
          have hfx := HFX.out j hlt
          rw [← hs0] at hx0 hms hfx
          rw [← hs1] at hy0 hms hfx
          have HMS := Aside0.mk hms
          have HE1 := Aside0.mk hs1
          have HF0 := Aside0.mk hfx.1
          have HF1 := Aside0.mk hfx.2
          have HX := Aside0.mk hnx
          have HLL := Aside0.mk (show L.length + 136 ≤ 262144 by have := HI.out; have := H1.out; omega)
          have c4 := eq_true hlt
          have c5 := eq_true (show (j : Int) < (l0.length : Int) by omega)
          have c6 := eq_true (show 0 ≤ (j : Int) by omega)
          clear hnx hlt hms hs0 hs1 hfx
          go_wp2_with (first
            | ((with_reducible refine gate_dst (N := 38) rfl ?_); (try (refine gate_guard (by rfl) ?_; dsimp only)); refine goesL_ (some 38) rfl rfl Try.func67 (by kernel_rfl) rfl #[.pointer (some ⟨g, 0, none⟩), .int .i64 s0] rfl (by (try simp only [List.map_toArray, List.map_cons, List.map_nil]); first | done | rfl) ?_; (with_reducible refine (refmark_calls g F L s0 w _ HB.out HS.out.own HF0.out (by have := HLL.out; omega)).mono ?_); rintro e w7 ⟨rfl, ht⟩; refine ⟨_, rfl, ?_⟩; obtain ⟨F2, hs_⟩ := Turned.sep ht (HS.out) rfl; have n0_ := Aside0.mk (Turned.below ht); clear HB HS ht; have HB := n0_; have HS := Aside0.mk hs_; clear n0_ hs_; clear hx0 hy0; obtain ⟨ad_, e_, hy0⟩ := Kd.at_int (Kd.R_reads' (Sep.R HS.out.p2)).2.2 (j : Int) (of_eq_true c6) (by rw [HYL.out]; exact of_eq_true c5); cases e_; rw [Int.toNat_natCast, ← HE1.out] at hy0)
            | ((with_reducible refine gate_dst (N := 44) rfl ?_); (try (refine gate_guard (by rfl) ?_; dsimp only)); refine goesL_ (some 44) rfl rfl Try.func67 (by kernel_rfl) rfl #[.pointer (some ⟨g, 0, none⟩), .int .i64 s1] rfl (by (try simp only [List.map_toArray, List.map_cons, List.map_nil]); first | done | rfl) ?_; (with_reducible refine (refmark_calls g F2 (L ++ markB s0) s1 w _ HB.out HS.out.own HF1.out (by have := HLL.out; have := markB_length s0; rw [List.length_append]; omega)).mono ?_); rintro e w9 ⟨rfl, ht⟩; refine ⟨_, rfl, ?_⟩; obtain ⟨F3b, hs_⟩ := Turned.sep ht (HS.out) rfl; have n0_ := Aside0.mk (Turned.below ht); clear HB HS ht; have HB := n0_; have HS := Aside0.mk hs_; clear n0_ hs_))
          go_roundg k1
          case measure => omega
          case rel => exact ⟨j + 1, L ++ markB s0 ++ markB s1, F3b, (by first | rfl | rw [HX.out]), ⟨by have := HI.out; omega, by
            have h1 := markB_length s0
            have h2 := markB_length s1
            have := HI.out
            rw [List.length_append, List.length_append]; omega, by
            rw [HMS.out, ← HI.out.2.2]⟩, HS, HB⟩
        · have c1b : decide ((j : Int) < (l0.length : Int)) = false := decide_eq_false (by omega)
          have c1n : decide (j < l0.length) = false := decide_eq_false hlt
          have hL : L = marksP 0 0 0 0 l0 := by
            have := HI.out.2.2
            rw [List.take_of_length_le (by rw [HXL.out]; omega), List.take_of_length_le (by rw [HYL.out]; omega)] at this
            rw [this, HMX.out]
          have HLM := Aside0.mk hL
          have HLN := Aside0.mk (show L.length ≤ 262144 by have := HI.out; have := H1.out; omega)
          have hm : 1 ≤ (varint l0.length).length ∧ (varint l0.length).length ≤ 10 := varint_le 9 _ (by have := H1.out; omega)
          have HVN := Aside0.mk hm
          clear hlt hL hm
          go_wp2_with (first
            | ((with_reducible refine gate_dst (N := 48) rfl ?_); (try (refine gate_guard (by rfl) ?_; dsimp only)); refine goesL_ (some 48) rfl rfl Try.func68 (by kernel_rfl) rfl #[.slice none 0 0, .int .u64 (l0.length : Int)] rfl (by (try simp only [List.map_toArray, List.map_cons, List.map_nil]); first | done | rfl) ?_; (with_reducible refine (ref1put_nil l0.length _ (by have := H1.out; omega)).mono ?_); rintro e w8 ⟨v, rfl, ho, hb⟩; refine ⟨_, rfl, ?_⟩; obtain ⟨A5, c5_, e_⟩ := Kd.R_slice ho; subst e_; obtain ⟨F5_, hs_⟩ := Sep.newrow (by repeat (first | (with_reducible first | exact HS.out | apply sep_alloc | apply sep_drewN | apply sep_drew) | exact HS.out)) hb (below_size (by repeat (first | (with_reducible first | exact HB.out | apply below_alloc | apply pw_below_drewN | apply below_drew1) | exact HB.out))) ho; have n0_ := Aside0.mk (below_step (by repeat (first | (with_reducible first | exact HB.out | apply below_alloc | apply pw_below_drewN | apply below_drew1) | exact HB.out)) hb); clear HB HS hb ho; have HB := n0_; have HS := Aside0.mk hs_; clear n0_ hs_)
            | ((with_reducible refine gate_dst (N := 50) rfl ?_); (try (refine gate_guard (by rfl) ?_; dsimp only)); refine goesL_ (some 50) rfl rfl Try.func26 (by kernel_rfl) rfl #[.pointer (some ⟨g, 0, none⟩)] rfl (by (try simp only [List.map_toArray, List.map_cons, List.map_nil]); first | done | rfl) ?_; (with_reducible refine (refbytes_calls w.heap.size g F L _ HS.out.p2.own HLN.out).mono ?_); rintro e w9 ⟨v, rfl, ho, hb⟩; refine ⟨_, rfl, ?_⟩; obtain ⟨A6, c6_, e_⟩ := Kd.R_slice ho; subst e_; obtain ⟨F6_, hs_⟩ := Sep.newrow (by repeat (first | (with_reducible first | exact HS.out | apply sep_alloc | apply sep_drewN | apply sep_drew) | exact HS.out)) hb (below_size (by repeat (first | (with_reducible first | exact HB.out | apply below_alloc | apply pw_below_drewN | apply below_drew1) | exact HB.out))) ho; have n0_ := Aside0.mk (below_step (by repeat (first | (with_reducible first | exact HB.out | apply below_alloc | apply pw_below_drewN | apply below_drew1) | exact HB.out)) hb); clear HB HS hb ho; have HB := n0_; have HS := Aside0.mk hs_; clear n0_ hs_)
            | ((with_reducible refine gate_builtin (b := .append) (xs := #[.tmp 48, .tmp 50]) rfl ?_); (refine wp_append_row (Kd.int .u8) (w0 := w) rfl (.tmp 48) (.tmp 50) 24 5 (.int .u8 0) 1 rfl Try.underlying24 info5 rfl (by decide) (by omega) (pack L) _ _ _ HS.out.p2 (Kd.R_reads' (Sep.R HS.out)).2.2 (fun _ _ h => h) (by repeat (first | (with_reducible first | exact HB.out | apply below_alloc | apply pw_below_drewN | apply below_drew1) | exact HB.out)) (by have := HVN.out; have := HLN.out; rw [pack_length]; omega) rfl rfl ?_); (intro v_ w_ F_ hs_ hb_); (obtain ⟨O1, hy_⟩ : ∃ y_, y_ = (varint l0.length) ++ (pack L) := ⟨_, rfl⟩; rw [← hy_] at hs_; have HO1 := Aside0.mk hy_; clear hy_ HB HS; have HB := Aside0.mk hb_; have HS := Aside0.mk hs_; clear hs_ hb_; obtain ⟨A_, c_, e_⟩ := Kd.R_slice (Sep.R HS.out); subst e_); (skip)))
          go_ret2
          refine ⟨_, by rw [HE.out]; rfl, ?_, HB.out⟩
          rw [HE.out]
          show Kd.R _ _ _ _ _ _ (putB l0)
          have : O1 = putB l0 := by rw [HO1.out, HLM.out]; rfl
          rw [← this]
          exact Kd.R_mono (Sep.R HS.out) (fun _ _ => trivial)
end Go.Proofs.Ythkpnnbjcendcaa.Sc
end

