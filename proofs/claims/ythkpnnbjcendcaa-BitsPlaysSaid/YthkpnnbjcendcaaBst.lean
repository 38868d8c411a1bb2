/- BitsStill, walked: a number that may not be put changes nothing. -/
import Derived.Test.YthkpnnbjcendcaaBc
set_option linter.unusedVariables false
set_option linter.unusedSimpArgs false
open Go.RowKit Go.Proofs.Ythkpnnbjcendcaa.X Go.Proofs.Ythkpnnbjcendcaa.Pl Go.Proofs.Ythkpnnbjcendcaa.Sp Go.Proofs.Ythkpnnbjcendcaa.Sc Go.Proofs.Ythkpnnbjcendcaa.Pure Go.Proofs.YthkpnnbjcendcaaW.PrintWords Go.Proofs.YthkpnnbjcendcaaW.PrintLast Go.Proofs.YthkpnnbjcendcaaW.PrintMore
namespace Go.Proofs.Ythkpnnbjcendcaa.Sc

theorem wf34 {x : S34} (h : (Lit.int .u64 x.f0).wf = true ∧ (Lit.int .i64 x.f1).wf = true) : (0 ≤ x.f0 ∧ x.f0 < 2 ^ 64) ∧ (-9223372036854775808 ≤ x.f1 ∧ x.f1 ≤ 9223372036854775807) := by
  refine ⟨?_, wf64 h.2⟩
  have := h.1
  simp [Lit.wf, IntKind.min, IntKind.max, IntKind.signed, IntKind.bits] at this
  omega
theorem rd34_mem {l : List S34} {i : Nat} (h : i < l.length) : rd_T34 l (i : Int) ∈ l := by
  unfold rd_T34
  rw [Int.toNat_natCast, getD_lt _ _ _ h]
  exact List.getElem_mem h
end Go.Proofs.Ythkpnnbjcendcaa.Sc
namespace Go.Proofs.Ythkpnnbjcendcaa.X
/-- What a statement's arguments are, told ahead. -/
def marigraphlaw02_BitsStill.Fit (l : List S34) (a b : Int) : Prop := l.length * 16 ≤ 140737488351232 ∧ (∀ y ∈ l, (Lit.int .u64 y.f0).wf = true ∧ (Lit.int .i64 y.f1).wf = true) ∧ (Lit.int .u64 a).wf = true ∧ (Lit.int .i64 b).wf = true
open Classical in
noncomputable def marigraphlaw02_BitsStill.f (l : List S34) (a b : Int) : Option Bool := if marigraphlaw02_BitsStill.Fit l a b then some true else none
end Go.Proofs.Ythkpnnbjcendcaa.X
namespace Go.Proofs.Ythkpnnbjcendcaa.Sc
theorem putC_w {m : Nat} {n w : Int} (h : putC m n w = 0) : 0 ≤ w ∧ w ≤ 64 := ⟨(putC_0 h).1, (putC_0 h).2.1⟩
theorem putL_len {L : List Bool} {n w : Int} (h : putC L.length n w = 0) (hm : L.length ≤ 262144) : ((putL L n w).length : Int) = wrap64 ((L.length : Int) + w) := by
  have := putC_0 h
  unfold putL
  rw [if_pos h, List.length_append, nb_length, w64 (by omega) (by omega)]
  omega
theorem bitsR_le {base g : Nat} {L : List Bool} {F : Nat → Prop} {w : World} (h : Own base w (bitsR base g L F)) : L.length ≤ 262144 := by
  obtain ⟨u, bs, hb, hr, hh, hF⟩ := h.now
  exact hh.1.max
end Go.Proofs.Ythkpnnbjcendcaa.Sc
namespace Go.Proofs.Ythkpnnbjcendcaa.X
set_option maxHeartbeats 8000000 in
set_option maxRecDepth 100000 in
theorem marigraphlaw02_BitsStill.calls (A0 : Option Addr) (c0 : Nat) (l0 : List S34) (a1_0 a1_1 : Int) (r : Bool) (w : World) (hr0 : Kd.C k34 w A0 l0.length l0) (hc0 : l0.length ≤ c0) (h : marigraphlaw02_BitsStill.f l0 a1_0 a1_1 = some r) :
    Calls Try.prog 4 #[.slice A0 l0.length c0, .agg #[.int .u64 a1_0, .int .i64 a1_1]] w fun e w' => e = .returned (.bool r) ∧ Below w.heap.size w w' := by
  unfold marigraphlaw02_BitsStill.f at h
  split at h
  case isFalse => cases h
  case isTrue hfit =>
  obtain rfl := Option.some.inj h
  obtain ⟨hlen, hwf, ha, hb⟩ := hfit
  obtain ⟨hn, hwd⟩ := wf34 (x := ⟨a1_0, a1_1⟩) ⟨ha, hb⟩
  have HR0 := Aside0.mk hr0
  have HL := Aside0.mk (show l0.length < 4611686018427387904 by omega)
  have HW := Aside0.mk hwf
  have HN := Aside0.mk hn
  have HD := Aside0.mk hwd
  have HB := Aside0.mk (Below.refl w.heap.size w)
  have HS := Aside0.mk (Sep.nil w.heap.size w)
  clear h hr0 hc0 hlen hwf ha hb hn hwd
  go_enter Try.func4, Try.ntmps4
  go_wp2_with (first
    | ((with_reducible refine gate_dst (N := 3) rfl ?_); (try (refine gate_guard (by rfl) ?_; dsimp only)); refine box_event ?hg (N := 3) ?hd (cs := #[.int .u64 a1_0, .int .i64 a1_1]) (t := 34) ?hr ?_; (case hd => rfl); (case hg => rfl); (case hr => first | (go_simp; done) | (go_simp; rfl)); intro gp hg w1 hbox hb; have n0_ := Aside0.mk (below_step (by repeat (first | (with_reducible first | exact HB.out | apply below_alloc | apply pw_below_drewN | apply below_drew1) | exact HB.out)) hb); have n1_ := Aside0.mk (Sep.newbox (by repeat (first | (with_reducible first | exact HS.out | apply sep_alloc | apply sep_drewN | apply sep_drew) | exact HS.out)) hb (Nat.le_of_eq hg.symm) (below_size (by repeat (first | (with_reducible first | exact HB.out | apply below_alloc | apply pw_below_drewN | apply below_drew1) | exact HB.out))) hbox); clear HB HS; have HB := n0_; have HS := n1_; clear n0_ n1_ hb hbox hg)
    | ((with_reducible refine gate_dst (N := 11) rfl ?_); (try (refine gate_guard (by rfl) ?_; dsimp only)); refine goesL_ (some 11) rfl rfl Try.func20 (by kernel_rfl) rfl #[] rfl (by (try simp only [List.map_toArray, List.map_cons, List.map_nil]); first | done | rfl) ?_; (with_reducible refine (marigraphlaw02_shown.calls true _ rfl).mono ?_); rintro e w2 ⟨rfl, hb⟩; refine ⟨_, rfl, ?_⟩; have n0_ := Aside0.mk (below_step (by repeat (first | (with_reducible first | exact HB.out | apply below_alloc | apply pw_below_drewN | apply below_drew1) | exact HB.out)) hb); have n1_ := Aside0.mk (Sep.below (by repeat (first | (with_reducible first | exact HS.out | apply sep_alloc | apply sep_drewN | apply sep_drew) | exact HS.out)) hb); clear HB HS; have HB := n0_; have HS := n1_; clear n0_ n1_ hb)
    | ((with_reducible refine gate_dst (N := 6) rfl ?_); (try (refine gate_guard (by rfl) ?_; dsimp only)); refine box_event ?hg (N := 6) ?hd (cs := #[.slice none 0 0, .int .i64 0]) (t := 26) ?hr ?_; (case hd => rfl); (case hg => rfl); (case hr => first | (go_simp; done) | (go_simp; rfl)); intro g hg w3 hbox hb; obtain ⟨F0, hs0⟩ := Sep.newbits (by repeat (first | (with_reducible first | exact HS.out | apply sep_alloc | apply sep_drewN | apply sep_drew) | exact HS.out)) hb (Nat.le_of_eq hg.symm) (below_size (by repeat (first | (with_reducible first | exact HB.out | apply below_alloc | apply pw_below_drewN | apply below_drew1) | exact HB.out))) hbox; have n0_ := Aside0.mk (below_step (by repeat (first | (with_reducible first | exact HB.out | apply below_alloc | apply pw_below_drewN | apply below_drew1) | exact HB.out)) hb); clear HB HS hg hbox hb; have HB := n0_; have HS := Aside0.mk hs0; clear n0_ hs0))
  go_loopg [14] l0.length (fun kq v14 w' => ∃ (j : Nat) (F : Nat → Prop) (L : List Bool), v14 = .int .i64 (j : Int) ∧ Aside0 (kq + j = l0.length) ∧ Aside0 (Sep w.heap.size w' [bitsR w.heap.size g L F, box gp #[.int .u64 a1_0, .int .i64 a1_1] 34]) ∧ Aside0 (Below w.heap.size w w'))
  case atStart => exact ⟨0, F0, [], rfl, ⟨rfl⟩, HS, HB⟩
  case round =>
    clear HS HB
    obtain ⟨j, F, L, rfl, HJ, HS, HB⟩ := hrel
    by_cases hlt : j < l0.length
    · obtain ⟨k1, rfl⟩ : ∃ m, gk = m + 1 := ⟨gk - 1, by have := HJ.out; omega⟩
      have c1b : decide ((j : Int) < (l0.length : Int)) = true := decide_eq_true (by omega)
      have c1n : decide (j < l0.length) = true := decide_eq_true hlt
      have c2 : 0 ≤ (j : Int) := by omega
      have hnx : wrap64 ((j : Int) + 1) = ((j + 1 : Nat) : Int) := by rw [w64 (by have := HL.out; omega) (by have := HL.out; omega)]; simp
      obtain ⟨ad, e1, hx0, hx1⟩ := at_T34 HR0.out (j : Int) c2 (by omega)
      cases e1
      rw [Int.toNat_natCast] at hx0 hx1
      replace hx0 := (HB.out.cell (World.block_lt_of_cell? w _ hx0)).trans hx0
      replace hx1 := (HB.out.cell (World.block_lt_of_cell? w _ hx1)).trans hx1
      obtain ⟨hn, hwd⟩ := wf34 (HW.out _ (rd34_mem hlt))
      have HN1 := Aside0.mk hn
      have HD1 := Aside0.mk hwd
      have HX := Aside0.mk hnx
      have HT := Aside0.mk hlt
      have c4 := eq_true hlt
      have c5 := eq_true (show (j : Int) < (l0.length : Int) by omega)
      have c6 := eq_true c2
      clear hn hwd hnx hlt c2
      by_cases c3 : (j : Int) < 100
      · have c3b : decide ((j : Int) < 100) = true := decide_eq_true c3
        have c3n : decide (j < 100) = true := decide_eq_true (by omega)
        clear c3
        go_wp2_with (first
          | ((with_reducible refine gate_dst (N := 8) rfl ?_); (try (refine gate_guard (by rfl) ?_; dsimp only)); refine box_event ?hg (N := 8) ?hd (cs := #[.int .u64 0, .int .i64 0]) (t := 34) ?hr ?_; (case hd => rfl); (case hg => rfl); (case hr => first | (go_simp; done) | (go_simp; rfl)); intro gq hg w5 hbox hb; have n0_ := Aside0.mk (below_step (by repeat (first | (with_reducible first | exact HB.out | apply below_alloc | apply pw_below_drewN | apply below_drew1) | exact HB.out)) hb); have n1_ := Aside0.mk (Sep.newbox (by repeat (first | (with_reducible first | exact HS.out | apply sep_alloc | apply sep_drewN | apply sep_drew) | exact HS.out)) hb (Nat.le_of_eq hg.symm) (below_size (by repeat (first | (with_reducible first | exact HB.out | apply below_alloc | apply pw_below_drewN | apply below_drew1) | exact HB.out))) hbox); clear HB HS; have HB := n0_; have HS := n1_; clear n0_ n1_ hb hbox hg; have hc0 := Sep.c20 HS.out; have hc1 := Sep.c21 HS.out; have hf0 := Sep.free HS.out 0; have hf1 := Sep.free HS.out 1)
          | (go_at_call 22; have hS2 := Aside0.mk (Sep.drop (Sep.set (Sep.set HS.out 0 (.int .u64 (rd_T34 l0 j).f0) rfl) 1 (.int .i64 (rd_T34 l0 j).f1) rfl)); (with_reducible refine (put_calls g F L _ _ w _ (below_set (below_set HB.out HS.out.ge (j := 0) (v := .int .u64 (rd_T34 l0 j).f0)) HS.out.ge (j := 1) (v := .int .i64 (rd_T34 l0 j).f1)) hS2.out.own HN1.out HD1.out).mono ?_); rintro e w6 ⟨rfl, ht⟩; obtain ⟨F_, hs_⟩ := Turned.sep ht (hS2.out) rfl; have n0_ := Aside0.mk (Turned.below ht); clear HB HS ht; have HB := n0_; have HS := Aside0.mk hs_; clear n0_ hs_; clear hS2 hc0 hc1 hf0 hf1))
        go_roundg k1
        case measure => omega
        case rel => exact ⟨j + 1, F_, _, by rw [HX.out], ⟨by have := HJ.out; omega⟩, HS, HB⟩
      · have c3b : decide ((j : Int) < 100) = false := decide_eq_false c3
        have c3n : decide (j < 100) = false := decide_eq_false (by omega)
        clear c3
        go_wp2_with (first
          | ((with_reducible refine gate_dst (N := 8) rfl ?_); (try (refine gate_guard (by rfl) ?_; dsimp only)); refine box_event ?hg (N := 8) ?hd (cs := #[.int .u64 0, .int .i64 0]) (t := 34) ?hr ?_; (case hd => rfl); (case hg => rfl); (case hr => first | (go_simp; done) | (go_simp; rfl)); intro gq hg w5 hbox hb; have n0_ := Aside0.mk (below_step (by repeat (first | (with_reducible first | exact HB.out | apply below_alloc | apply pw_below_drewN | apply below_drew1) | exact HB.out)) hb); have n1_ := Aside0.mk (Sep.newbox (by repeat (first | (with_reducible first | exact HS.out | apply sep_alloc | apply sep_drewN | apply sep_drew) | exact HS.out)) hb (Nat.le_of_eq hg.symm) (below_size (by repeat (first | (with_reducible first | exact HB.out | apply below_alloc | apply pw_below_drewN | apply below_drew1) | exact HB.out))) hbox); clear HB HS; have HB := n0_; have HS := n1_; clear n0_ n1_ hb hbox hg; have hc0 := Sep.c20 HS.out; have hc1 := Sep.c21 HS.out; have hf0 := Sep.free HS.out 0; have hf1 := Sep.free HS.out 1))
        go_roundg k1
        case measure => omega
        case rel => exact ⟨j + 1, F, L, by rw [HX.out], ⟨by have := HJ.out; omega⟩, ⟨Sep.drop (Sep.set (Sep.set HS.out 0 _ rfl) 1 _ rfl)⟩, ⟨below_set (below_set HB.out HS.out.ge) HS.out.ge⟩⟩
    · have c1b : decide ((j : Int) < (l0.length : Int)) = false := decide_eq_false (by omega)
      have c1n : decide (j < l0.length) = false := decide_eq_false hlt
      clear hlt
      have hc0 := Sep.c20 HS.out.p2
      have hc1 := Sep.c21 HS.out.p2
      have HM := Aside0.mk (bitsR_le HS.out.own)
      by_cases c0 : putC L.length a1_0 a1_1 = 0
      · have c0b : (putC L.length a1_0 a1_1 == 0) = true := by simpa using c0
        go_wp2_with (first
          | ((with_reducible refine gate_dst (N := 27) rfl ?_); (try (refine gate_guard (by rfl) ?_; dsimp only)); refine goesL_ (some 27) rfl rfl Try.func25 (by kernel_rfl) rfl #[.pointer (some ⟨g, 0, none⟩)] rfl (by (try simp only [List.map_toArray, List.map_cons, List.map_nil]); first | done | rfl) ?_; (with_reducible refine (bytes_calls w.heap.size g F L _ HS.out.own).mono ?_); rintro e w7 ⟨v, rfl, ho, hb⟩; refine ⟨_, rfl, ?_⟩; obtain ⟨A3, c3, e_⟩ := Kd.R_slice ho; subst e_; obtain ⟨F3, hs_⟩ := Sep.newrow (by repeat (first | (with_reducible first | exact HS.out | apply sep_alloc | apply sep_drewN | apply sep_drew) | exact HS.out)) hb (below_size (by repeat (first | (with_reducible first | exact HB.out | apply below_alloc | apply pw_below_drewN | apply below_drew1) | exact HB.out))) ho; have n0_ := Aside0.mk (below_step (by repeat (first | (with_reducible first | exact HB.out | apply below_alloc | apply pw_below_drewN | apply below_drew1) | exact HB.out)) hb); clear HB HS hb ho; have HB := n0_; have HS := Aside0.mk hs_; clear n0_ hs_; (try clear hc0 hc1); have hc0 := Sep.c20 HS.out.p3; have hc1 := Sep.c21 HS.out.p3)
          | ((with_reducible refine gate_dst (N := 28) rfl ?_); (try (refine gate_guard (by rfl) ?_; dsimp only)); refine goesL_ (some 28) rfl rfl Try.func24 (by kernel_rfl) rfl #[.pointer (some ⟨g, 0, none⟩)] rfl (by (try simp only [List.map_toArray, List.map_cons, List.map_nil]); first | done | rfl) ?_; (with_reducible refine (len_calls w.heap.size g F L _ HS.out.p2.own).mono ?_); rintro e w8 ⟨rfl, hb⟩; refine ⟨_, rfl, ?_⟩; have n0_ := Aside0.mk (below_step (by repeat (first | (with_reducible first | exact HB.out | apply below_alloc | apply pw_below_drewN | apply below_drew1) | exact HB.out)) hb); have n1_ := Aside0.mk (Sep.below (by repeat (first | (with_reducible first | exact HS.out | apply sep_alloc | apply sep_drewN | apply sep_drew) | exact HS.out)) hb); clear HB HS; have HB := n0_; have HS := n1_; clear n0_ n1_ hb; (try clear hc0 hc1); have hc0 := Sep.c20 HS.out.p3; have hc1 := Sep.c21 HS.out.p3)
          | ((with_reducible refine gate_dst (N := 33) rfl ?_); (try (refine gate_guard (by rfl) ?_; dsimp only)); refine goesL_ (some 33) rfl rfl Try.func22 (by kernel_rfl) rfl #[.pointer (some ⟨g, 0, none⟩), .int .u64 a1_0, .int .i64 a1_1] rfl (by (try simp only [List.map_toArray, List.map_cons, List.map_nil]); first | done | rfl) ?_; (with_reducible refine (put_calls g F L _ _ w _ HB.out HS.out.p2.own HN.out HD.out).mono ?_); rintro e w9 ⟨rfl, ht⟩; refine ⟨_, rfl, ?_⟩; obtain ⟨F_, hs_⟩ := Turned.sep ht (HS.out.p2) rfl; have n0_ := Aside0.mk (Turned.below ht); clear HB HS ht; have HB := n0_; have HS := Aside0.mk hs_; clear n0_ hs_; (try clear hc0 hc1); have hc0 := Sep.c20 HS.out.p3; have hc1 := Sep.c21 HS.out.p3))
        have hA : decide (0 ≤ a1_1) = true := decide_eq_true (putC_w c0).1
        have hA2 : decide (a1_1 ≤ 64) = true := decide_eq_true (putC_w c0).2
        have hq : (((putL L a1_0 a1_1).length : Int) == wrap64 ((L.length : Int) + a1_1)) = true := by
          have := putL_len c0 (HM.out)
          simpa using this
        clear hc0 hc1 c0
        refine start_ (n := 20) (S := fun w' => w'.cell? ⟨gp, 1, none⟩ = some (.int .i64 a1_1)) (ds := []) #[false, false, false, false, false, false, false, false, false, false, false, false, false, false, false, false, false, false, false, false] (by kernel_rfl) rfl rfl (Sep.c21 (sep_drew HS.out.p3)) (fun hHeld => ?_)
        have n0_ := Aside0.mk (below_drew HB.out)
        have n1_ := Aside0.mk (sep_drew HS.out)
        clear HB HS
        have HB := n0_
        have HS := n1_
        clear n0_ n1_
        generalize (World.drew w9) = wd at HB HS hHeld ⊢
        refine pure_ (i := 0) (N := some 35) (v := ?_) (a' := ?_) #[true, false, false, false, false, false, false, false, false, false, false, false, false, false, false, false, false, false, false, false] rfl rfl (by kernel_rfl) (fun _ _ _ h => h) (Or.inl ⟨by rfl, ?_⟩) ?_ ?_
        rotate_left
        · intro w'
          go_simp
          with_reducible rfl
        rotate_left
        · simp only [Act.put, List.setIfInBounds_toArray, List.set_cons_zero, List.set_cons_succ, i64_w, i32_w]
          rfl
        refine pure_ (i := 1) (N := some 36) (v := ?_) (a' := ?_) #[true, true, false, false, false, false, false, false, false, false, false, false, false, false, false, false, false, false, false, false] rfl rfl (by kernel_rfl) (fun _ _ _ h => h) (Or.inl ⟨by rfl, ?_⟩) ?_ ?_
        rotate_left
        · intro w'
          go_simp
          with_reducible rfl
        rotate_left
        · simp only [Act.put, List.setIfInBounds_toArray, List.set_cons_zero, List.set_cons_succ, i64_w, i32_w]
          rfl
        refine pure_ (i := 2) (N := some 37) (v := ?_) (a' := ?_) #[true, true, true, false, false, false, false, false, false, false, false, false, false, false, false, false, false, false, false, false] rfl rfl (by kernel_rfl) (fun _ _ _ h => h) (Or.inl ⟨by rfl, ?_⟩) ?_ ?_
        rotate_left
        · intro w'
          go_simp
          with_reducible rfl
        rotate_left
        · simp only [Act.put, List.setIfInBounds_toArray, List.set_cons_zero, List.set_cons_succ, i64_w, i32_w]
          rfl
        refine take_ (i := 3) (N := some 38) (v := ?_) (a' := ?_) #[true, true, true, true, false, false, false, false, false, false, false, false, false, false, false, false, false, false, false, false] rfl rfl (by kernel_rfl) (fun _ _ _ h => h) (Or.inl ⟨by rfl, ?_⟩) hHeld ?_ ?_
        rotate_left
        · intro w' s0
          go_simp
          with_reducible rfl
        rotate_left
        · simp only [Act.put, List.setIfInBounds_toArray, List.set_cons_zero, List.set_cons_succ, i64_w, i32_w]
          rfl
        refine pure_ (i := 4) (N := some 39) (v := ?_) (a' := ?_) #[true, true, true, true, true, false, false, false, false, false, false, false, false, false, false, false, false, false, false, false] rfl rfl (by kernel_rfl) (fun _ _ _ h => h) (Or.inl ⟨by rfl, ?_⟩) ?_ ?_
        rotate_left
        · intro w'
          go_simp
          with_reducible rfl
        rotate_left
        · simp only [Act.put, List.setIfInBounds_toArray, List.set_cons_zero, List.set_cons_succ, i64_w, i32_w]
          rfl
        refine pure_ (i := 5) (N := some 40) (v := ?_) (a' := ?_) #[true, true, true, true, true, true, false, false, false, false, false, false, false, false, false, false, false, false, false, false] rfl rfl (by kernel_rfl) (fun _ _ _ h => h) (Or.inl ⟨by rfl, ?_⟩) ?_ ?_
        rotate_left
        · intro w'
          go_simp
          with_reducible rfl
        rotate_left
        · simp only [Act.put, List.setIfInBounds_toArray, List.set_cons_zero, List.set_cons_succ, i64_w, i32_w]
          rfl
        refine pure_ (i := 6) (N := some 41) (v := ?_) (a' := ?_) #[true, true, true, true, true, true, true, false, false, false, false, false, false, false, false, false, false, false, false, false] rfl rfl (by kernel_rfl) (fun _ _ _ h => h) (Or.inl ⟨by rfl, ?_⟩) ?_ ?_
        rotate_left
        · intro w'
          go_simp
          with_reducible rfl
        rotate_left
        · simp only [Act.put, List.setIfInBounds_toArray, List.set_cons_zero, List.set_cons_succ, i64_w, i32_w]
          rfl
        refine pure_ (i := 7) (N := some 42) (v := ?_) (a' := ?_) #[true, true, true, true, true, true, true, true, false, false, false, false, false, false, false, false, false, false, false, false] rfl rfl (by kernel_rfl) (fun _ _ _ h => h) (Or.inl ⟨by rfl, ?_⟩) ?_ ?_
        rotate_left
        · intro w'
          go_simp
          with_reducible rfl
        rotate_left
        · simp only [Act.put, List.setIfInBounds_toArray, List.set_cons_zero, List.set_cons_succ, i64_w, i32_w]
          rfl
        refine take_ (i := 8) (N := some 43) (v := ?_) (a' := ?_) #[true, true, true, true, true, true, true, true, true, false, false, false, false, false, false, false, false, false, false, false] rfl rfl (by kernel_rfl) (fun _ _ _ h => h) (Or.inl ⟨by rfl, ?_⟩) hHeld ?_ ?_
        rotate_left
        · intro w' s0
          go_simp
          with_reducible rfl
        rotate_left
        · simp only [Act.put, List.setIfInBounds_toArray, List.set_cons_zero, List.set_cons_succ, i64_w, i32_w]
          rfl
        refine pure_ (i := 9) (N := some 44) (v := ?_) (a' := ?_) #[true, true, true, true, true, true, true, true, true, true, false, false, false, false, false, false, false, false, false, false] rfl rfl (by kernel_rfl) (fun _ _ _ h => h) (Or.inl ⟨by rfl, ?_⟩) ?_ ?_
        rotate_left
        · intro w'
          go_simp
          with_reducible rfl
        rotate_left
        · simp only [Act.put, List.setIfInBounds_toArray, List.set_cons_zero, List.set_cons_succ, i64_w, i32_w]
          rfl
        refine pure_ (i := 10) (N := some 45) (v := ?_) (a' := ?_) #[true, true, true, true, true, true, true, true, true, true, true, false, false, false, false, false, false, false, false, false] rfl rfl (by kernel_rfl) (fun _ _ _ h => h) (Or.inl ⟨by rfl, ?_⟩) ?_ ?_
        rotate_left
        · intro w'
          go_simp
          with_reducible rfl
        rotate_left
        · simp only [Act.put, List.setIfInBounds_toArray, List.set_cons_zero, List.set_cons_succ, i64_w, i32_w]
          rfl
        refine pure_ (i := 11) (N := some 46) (v := ?_) (a' := ?_) #[true, true, true, true, true, true, true, true, true, true, true, true, false, false, false, false, false, false, false, false] rfl rfl (by kernel_rfl) (fun _ _ _ h => h) (Or.inl ⟨by rfl, ?_⟩) ?_ ?_
        rotate_left
        · intro w'
          go_simp
          with_reducible rfl
        rotate_left
        · simp only [Act.put, List.setIfInBounds_toArray, List.set_cons_zero, List.set_cons_succ, i64_w, i32_w]
          rfl
        refine pure_ (i := 13) (N := some 48) (v := ?_) (a' := ?_) #[true, true, true, true, true, true, true, true, true, true, true, true, false, true, false, false, false, false, false, false] rfl rfl (by kernel_rfl) (fun _ _ _ h => h) (Or.inl ⟨by rfl, ?_⟩) ?_ ?_
        rotate_left
        · intro w'
          go_simp
          with_reducible rfl
        rotate_left
        · simp only [Act.put, List.setIfInBounds_toArray, List.set_cons_zero, List.set_cons_succ, i64_w, i32_w]
          rfl
        refine pure_ (i := 14) (N := some 49) (v := ?_) (a' := ?_) #[true, true, true, true, true, true, true, true, true, true, true, true, false, true, true, false, false, false, false, false] rfl rfl (by kernel_rfl) (fun _ _ _ h => h) (Or.inl ⟨by rfl, ?_⟩) ?_ ?_
        rotate_left
        · intro w'
          go_simp
          with_reducible rfl
        rotate_left
        · simp only [Act.put, List.setIfInBounds_toArray, List.set_cons_zero, List.set_cons_succ, i64_w, i32_w]
          rfl
        refine take_ (i := 15) (N := some 50) (v := ?_) (a' := ?_) #[true, true, true, true, true, true, true, true, true, true, true, true, false, true, true, true, false, false, false, false] rfl rfl (by kernel_rfl) (fun _ _ _ h => h) (Or.inl ⟨by rfl, ?_⟩) hHeld ?_ ?_
        rotate_left
        · intro w' s0
          go_simp
          with_reducible rfl
        rotate_left
        · simp only [Act.put, List.setIfInBounds_toArray, List.set_cons_zero, List.set_cons_succ, i64_w, i32_w]
          rfl
        refine pure_ (i := 16) (N := some 51) (v := ?_) (a' := ?_) #[true, true, true, true, true, true, true, true, true, true, true, true, false, true, true, true, true, false, false, false] rfl rfl (by kernel_rfl) (fun _ _ _ h => h) (Or.inl ⟨by rfl, ?_⟩) ?_ ?_
        rotate_left
        · intro w'
          go_simp
          with_reducible rfl
        rotate_left
        · simp only [Act.put, List.setIfInBounds_toArray, List.set_cons_zero, List.set_cons_succ, i64_w, i32_w]
          rfl
        refine one_ (i := 12) (N := some 47) #[true, true, true, true, true, true, true, true, true, true, true, true, true, true, true, true, true, false, false, false] rfl rfl (by kernel_rfl) (by decide) (fun K hK => ?_)
        refine goes_ Try.func24 (by kernel_rfl) rfl #[.pointer (some ⟨g, 0, none⟩)] (by rfl) rfl rfl (by simp only [List.map_toArray, List.map_cons, List.map_nil]; rfl) ?_; with_reducible refine (len_calls w.heap.size g F_ _ _ HS.out.own).mono ?_; rintro e wl ⟨rfl, hb⟩; refine ⟨_, rfl, ?_⟩
        have n0_ := Aside0.mk (below_step (by repeat (first | (with_reducible first | exact HB.out | apply below_alloc | apply pw_below_drewN | apply below_drew1) | exact HB.out)) hb); have n1_ := Aside0.mk (Sep.below (by repeat (first | (with_reducible first | exact HS.out | apply sep_alloc | apply sep_drewN | apply sep_drew) | exact HS.out)) hb); clear HB HS; have HB := n0_; have HS := n1_; clear n0_ n1_ hb
        refine hK.out _ _ (Sep.c21 HS.out.p3) (fun hHeld => ?_)
        clear hK K
        refine norm_ (a' := ?_) ?_ ?_
        rotate_left
        · show Act.put _ (some 47) _ = _
          simp only [Act.put, List.setIfInBounds_toArray, List.set_cons_zero, List.set_cons_succ, i64_w, i32_w]
          rfl
        refine pure_ (i := 17) (N := some 52) (v := ?_) (a' := ?_) #[true, true, true, true, true, true, true, true, true, true, true, true, true, true, true, true, true, true, false, false] rfl rfl (by kernel_rfl) (fun _ _ _ h => h) (Or.inl ⟨by rfl, ?_⟩) ?_ ?_
        rotate_left
        · intro w'
          go_simp
          with_reducible rfl
        rotate_left
        · simp only [Act.put, List.setIfInBounds_toArray, List.set_cons_zero, List.set_cons_succ, i64_w, i32_w]
          rfl
        refine pure_ (i := 18) (N := some 53) (v := ?_) (a' := ?_) #[true, true, true, true, true, true, true, true, true, true, true, true, true, true, true, true, true, true, true, false] rfl rfl (by kernel_rfl) (fun _ _ _ h => h) (Or.inl ⟨by rfl, ?_⟩) ?_ ?_
        rotate_left
        · intro w'
          go_simp
          with_reducible rfl
        rotate_left
        · simp only [Act.put, List.setIfInBounds_toArray, List.set_cons_zero, List.set_cons_succ, i64_w, i32_w]
          rfl
        refine pure_ (i := 19) (N := some 4) (v := ?_) (a' := ?_) #[true, true, true, true, true, true, true, true, true, true, true, true, true, true, true, true, true, true, true, true] rfl rfl (by kernel_rfl) (fun _ _ _ h => h) (Or.inl ⟨by rfl, ?_⟩) ?_ ?_
        rotate_left
        · intro w'
          go_simp
          with_reducible rfl
        rotate_left
        · simp only [Act.put, List.setIfInBounds_toArray, List.set_cons_zero, List.set_cons_succ, i64_w, i32_w]
          rfl
        refine done_ (by kernel_rfl) ?_
        go_wp2
        go_ret
        exact ⟨rfl, HB.out⟩
      · have c0b : (putC L.length a1_0 a1_1 == 0) = false := by simpa using c0
        go_wp2_with (first
          | ((with_reducible refine gate_dst (N := 27) rfl ?_); (try (refine gate_guard (by rfl) ?_; dsimp only)); refine goesL_ (some 27) rfl rfl Try.func25 (by kernel_rfl) rfl #[.pointer (some ⟨g, 0, none⟩)] rfl (by (try simp only [List.map_toArray, List.map_cons, List.map_nil]); first | done | rfl) ?_; (with_reducible refine (bytes_calls w.heap.size g F L _ HS.out.own).mono ?_); rintro e w7 ⟨v, rfl, ho, hb⟩; refine ⟨_, rfl, ?_⟩; obtain ⟨A3, c3, e_⟩ := Kd.R_slice ho; subst e_; obtain ⟨F3, hs_⟩ := Sep.newrow (by repeat (first | (with_reducible first | exact HS.out | apply sep_alloc | apply sep_drewN | apply sep_drew) | exact HS.out)) hb (below_size (by repeat (first | (with_reducible first | exact HB.out | apply below_alloc | apply pw_below_drewN | apply below_drew1) | exact HB.out))) ho; have n0_ := Aside0.mk (below_step (by repeat (first | (with_reducible first | exact HB.out | apply below_alloc | apply pw_below_drewN | apply below_drew1) | exact HB.out)) hb); clear HB HS hb ho; have HB := n0_; have HS := Aside0.mk hs_; clear n0_ hs_; (try clear hc0 hc1); have hc0 := Sep.c20 HS.out.p3; have hc1 := Sep.c21 HS.out.p3)
          | ((with_reducible refine gate_dst (N := 28) rfl ?_); (try (refine gate_guard (by rfl) ?_; dsimp only)); refine goesL_ (some 28) rfl rfl Try.func24 (by kernel_rfl) rfl #[.pointer (some ⟨g, 0, none⟩)] rfl (by (try simp only [List.map_toArray, List.map_cons, List.map_nil]); first | done | rfl) ?_; (with_reducible refine (len_calls w.heap.size g F L _ HS.out.p2.own).mono ?_); rintro e w8 ⟨rfl, hb⟩; refine ⟨_, rfl, ?_⟩; have n0_ := Aside0.mk (below_step (by repeat (first | (with_reducible first | exact HB.out | apply below_alloc | apply pw_below_drewN | apply below_drew1) | exact HB.out)) hb); have n1_ := Aside0.mk (Sep.below (by repeat (first | (with_reducible first | exact HS.out | apply sep_alloc | apply sep_drewN | apply sep_drew) | exact HS.out)) hb); clear HB HS; have HB := n0_; have HS := n1_; clear n0_ n1_ hb; (try clear hc0 hc1); have hc0 := Sep.c20 HS.out.p3; have hc1 := Sep.c21 HS.out.p3)
          | ((with_reducible refine gate_dst (N := 33) rfl ?_); (try (refine gate_guard (by rfl) ?_; dsimp only)); refine goesL_ (some 33) rfl rfl Try.func22 (by kernel_rfl) rfl #[.pointer (some ⟨g, 0, none⟩), .int .u64 a1_0, .int .i64 a1_1] rfl (by (try simp only [List.map_toArray, List.map_cons, List.map_nil]); first | done | rfl) ?_; (with_reducible refine (put_calls g F L _ _ w _ HB.out HS.out.p2.own HN.out HD.out).mono ?_); rintro e w9 ⟨rfl, ht⟩; refine ⟨_, rfl, ?_⟩; obtain ⟨F_, hs_⟩ := Turned.sep ht (HS.out.p2) rfl; have n0_ := Aside0.mk (Turned.below ht); clear HB HS ht; have HB := n0_; have HS := Aside0.mk hs_; clear n0_ hs_; (try clear hc0 hc1); have hc0 := Sep.c20 HS.out.p3; have hc1 := Sep.c21 HS.out.p3))
        rw [show putL L a1_0 a1_1 = L from if_neg c0] at HS
        clear hc0 hc1 c0
        refine start_ (n := 14) (S := fun w' => (convert 24 9 (.slice A3 (pack L).length c3)).run Try.prog w' = .ok (.string (strOfNums (pack L))) w') (ds := []) #[false, false, false, false, false, false, false, false, false, false, false, false, false, false] (by kernel_rfl) rfl rfl (own_string Try.underlying24 Try.underlying5 Try.underlying9 (Kd.own_of_R (Sep.R (sep_drew HS.out.p2)))) (fun hHeld => ?_)
        have n0_ := Aside0.mk (below_drew HB.out)
        have n1_ := Aside0.mk (sep_drew HS.out)
        clear HB HS
        have HB := n0_
        have HS := n1_
        clear n0_ n1_
        generalize (World.drew w9) = wd at HB HS hHeld ⊢
        refine pure_ (i := 0) (N := some 54) (v := ?_) (a' := ?_) #[true, false, false, false, false, false, false, false, false, false, false, false, false, false] rfl rfl (by kernel_rfl) (fun _ _ _ h => h) (Or.inl ⟨by rfl, ?_⟩) ?_ ?_
        rotate_left
        · intro w'
          go_simp
          with_reducible rfl
        rotate_left
        · simp only [Act.put, List.setIfInBounds_toArray, List.set_cons_zero, List.set_cons_succ, i64_w, i32_w]
          rfl
        refine pure_ (i := 1) (N := some 55) (v := ?_) (a' := ?_) #[true, true, false, false, false, false, false, false, false, false, false, false, false, false] rfl rfl (by kernel_rfl) (fun _ _ _ h => h) (Or.inl ⟨by rfl, ?_⟩) ?_ ?_
        rotate_left
        · intro w'
          go_simp
          with_reducible rfl
        rotate_left
        · simp only [Act.put, List.setIfInBounds_toArray, List.set_cons_zero, List.set_cons_succ, i64_w, i32_w]
          rfl
        refine pure_ (i := 4) (N := some 58) (v := ?_) (a' := ?_) #[true, true, false, false, true, false, false, false, false, false, false, false, false, false] rfl rfl (by kernel_rfl) (fun _ _ _ h => h) (Or.inl ⟨by rfl, ?_⟩) ?_ ?_
        rotate_left
        · intro w'
          go_simp
          with_reducible rfl
        rotate_left
        · simp only [Act.put, List.setIfInBounds_toArray, List.set_cons_zero, List.set_cons_succ, i64_w, i32_w]
          rfl
        refine take_ (i := 5) (N := some 59) (v := ?_) (a' := ?_) #[true, true, false, false, true, true, false, false, false, false, false, false, false, false] rfl rfl (by kernel_rfl) (fun _ _ _ h => h) (Or.inl ⟨by rfl, ?_⟩) hHeld ?_ ?_
        rotate_left
        · intro w' s0
          go_simp
          with_reducible rfl
        rotate_left
        · simp only [Act.put, List.setIfInBounds_toArray, List.set_cons_zero, List.set_cons_succ, i64_w, i32_w]
          rfl
        refine one_ (i := 2) (N := some 56) #[true, true, true, false, true, true, false, false, false, false, false, false, false, false] rfl rfl (by kernel_rfl) (by decide) (fun K hK => ?_)
        refine goes_ Try.func25 (by kernel_rfl) rfl #[.pointer (some ⟨g, 0, none⟩)] (by rfl) rfl rfl (by simp only [List.map_toArray, List.map_cons, List.map_nil]; rfl) ?_; with_reducible refine (bytes_calls w.heap.size g F_ _ _ HS.out.own).mono ?_; rintro e wl ⟨v2, rfl, ho, hb⟩; refine ⟨_, rfl, ?_⟩
        have hcv := own_string (P := Try.prog) Try.underlying24 Try.underlying5 Try.underlying9 (Kd.own_of_R ho)
        clear ho
        have n0_ := Aside0.mk (below_step (by repeat (first | (with_reducible first | exact HB.out | apply below_alloc | apply pw_below_drewN | apply below_drew1) | exact HB.out)) hb); have n1_ := Aside0.mk (Sep.below (by repeat (first | (with_reducible first | exact HS.out | apply sep_alloc | apply sep_drewN | apply sep_drew) | exact HS.out)) hb); clear HB HS; have HB := n0_; have HS := n1_; clear n0_ n1_ hb
        refine hK.out _ _ (own_string Try.underlying24 Try.underlying5 Try.underlying9 (Kd.own_of_R (Sep.R HS.out.p2))) (fun hHeld => ?_)
        clear hK K
        refine norm_ (a' := ?_) ?_ ?_
        rotate_left
        · show Act.put _ (some 56) _ = _
          simp only [Act.put, List.setIfInBounds_toArray, List.set_cons_zero, List.set_cons_succ, i64_w, i32_w]
          rfl
        refine one_ (i := 3) (N := some 57) #[true, true, true, true, true, true, false, false, false, false, false, false, false, false] rfl rfl (by kernel_rfl) (by decide) (fun K hK => ?_)
        refine value_ (w1 := ?_) (v := ?_) (by rfl) rfl ?_ ?_
        rotate_left 2
        · go_simp
          constructor
          · rfl
          · rfl
        refine hK.out _ _ (own_string Try.underlying24 Try.underlying5 Try.underlying9 (Kd.own_of_R (Sep.R HS.out.p2))) (fun hHeld => ?_)
        clear hK K
        refine norm_ (a' := ?_) ?_ ?_
        rotate_left
        · show Act.put _ (some 57) _ = _
          simp only [Act.put, List.setIfInBounds_toArray, List.set_cons_zero, List.set_cons_succ, i64_w, i32_w]
          rfl
        refine pure_ (i := 6) (N := some 60) (v := ?_) (a' := ?_) #[true, true, true, true, true, true, true, false, false, false, false, false, false, false] rfl rfl (by kernel_rfl) (fun _ _ _ h => h) (Or.inl ⟨by rfl, ?_⟩) ?_ ?_
        rotate_left
        · intro w'
          go_simp
          with_reducible rfl
        rotate_left
        · simp only [Act.put, List.setIfInBounds_toArray, List.set_cons_zero, List.set_cons_succ, i64_w, i32_w]
          rfl
        refine pure_ (i := 7) (N := some 61) (v := ?_) (a' := ?_) #[true, true, true, true, true, true, true, true, false, false, false, false, false, false] rfl rfl (by kernel_rfl) (fun _ _ _ h => h) (Or.inl ⟨by rfl, ?_⟩) ?_ ?_
        rotate_left
        · intro w'
          go_simp
          with_reducible rfl
        rotate_left
        · simp only [Act.put, List.setIfInBounds_toArray, List.set_cons_zero, List.set_cons_succ, i64_w, i32_w]
          rfl
        refine pure_ (i := 8) (N := some 62) (v := ?_) (a' := ?_) #[true, true, true, true, true, true, true, true, true, false, false, false, false, false] rfl rfl (by kernel_rfl) (fun _ _ _ h => h) (Or.inl ⟨by rfl, ?_⟩) ?_ ?_
        rotate_left
        · intro w'
          go_simp
          with_reducible rfl
        rotate_left
        · simp only [Act.put, List.setIfInBounds_toArray, List.set_cons_zero, List.set_cons_succ, i64_w, i32_w]
          rfl
        refine pure_ (i := 10) (N := some 64) (v := ?_) (a' := ?_) #[true, true, true, true, true, true, true, true, true, false, true, false, false, false] rfl rfl (by kernel_rfl) (fun _ _ _ h => h) (Or.inl ⟨by rfl, ?_⟩) ?_ ?_
        rotate_left
        · intro w'
          go_simp
          with_reducible rfl
        rotate_left
        · simp only [Act.put, List.setIfInBounds_toArray, List.set_cons_zero, List.set_cons_succ, i64_w, i32_w]
          rfl
        refine one_ (i := 9) (N := some 63) #[true, true, true, true, true, true, true, true, true, true, true, false, false, false] rfl rfl (by kernel_rfl) (by decide) (fun K hK => ?_)
        refine goes_ Try.func24 (by kernel_rfl) rfl #[.pointer (some ⟨g, 0, none⟩)] (by rfl) rfl rfl (by simp only [List.map_toArray, List.map_cons, List.map_nil]; rfl) ?_; with_reducible refine (len_calls w.heap.size g F_ _ _ HS.out.own).mono ?_; rintro e wm ⟨rfl, hb⟩; refine ⟨_, rfl, ?_⟩
        clear hcv
        have n0_ := Aside0.mk (below_step (by repeat (first | (with_reducible first | exact HB.out | apply below_alloc | apply pw_below_drewN | apply below_drew1) | exact HB.out)) hb); have n1_ := Aside0.mk (Sep.below (by repeat (first | (with_reducible first | exact HS.out | apply sep_alloc | apply sep_drewN | apply sep_drew) | exact HS.out)) hb); clear HB HS; have HB := n0_; have HS := n1_; clear n0_ n1_ hb
        refine hK.out _ _ (own_string Try.underlying24 Try.underlying5 Try.underlying9 (Kd.own_of_R (Sep.R HS.out.p2))) (fun hHeld => ?_)
        clear hK K
        refine norm_ (a' := ?_) ?_ ?_
        rotate_left
        · show Act.put _ (some 63) _ = _
          simp only [Act.put, List.setIfInBounds_toArray, List.set_cons_zero, List.set_cons_succ, i64_w, i32_w]
          rfl
        refine pure_ (i := 11) (N := some 65) (v := ?_) (a' := ?_) #[true, true, true, true, true, true, true, true, true, true, true, true, false, false] rfl rfl (by kernel_rfl) (fun _ _ _ h => h) (Or.inl ⟨by rfl, ?_⟩) ?_ ?_
        rotate_left
        · intro w'
          go_simp
          with_reducible rfl
        rotate_left
        · simp only [Act.put, List.setIfInBounds_toArray, List.set_cons_zero, List.set_cons_succ, i64_w, i32_w]
          rfl
        refine pure_ (i := 12) (N := some 66) (v := ?_) (a' := ?_) #[true, true, true, true, true, true, true, true, true, true, true, true, true, false] rfl rfl (by kernel_rfl) (fun _ _ _ h => h) (Or.inl ⟨by rfl, ?_⟩) ?_ ?_
        rotate_left
        · intro w'
          go_simp
          with_reducible rfl
        rotate_left
        · simp only [Act.put, List.setIfInBounds_toArray, List.set_cons_zero, List.set_cons_succ, i64_w, i32_w]
          rfl
        refine pure_ (i := 13) (N := some 4) (v := ?_) (a' := ?_) #[true, true, true, true, true, true, true, true, true, true, true, true, true, true] rfl rfl (by kernel_rfl) (fun _ _ _ h => h) (Or.inl ⟨by rfl, ?_⟩) ?_ ?_
        rotate_left
        · intro w'
          go_simp
          with_reducible rfl
        rotate_left
        · simp only [Act.put, List.setIfInBounds_toArray, List.set_cons_zero, List.set_cons_succ, i64_w, i32_w]
          rfl
        refine done_ (by kernel_rfl) ?_
        go_wp2
        go_ret
        exact ⟨rfl, HB.out⟩
end Go.Proofs.Ythkpnnbjcendcaa.X
