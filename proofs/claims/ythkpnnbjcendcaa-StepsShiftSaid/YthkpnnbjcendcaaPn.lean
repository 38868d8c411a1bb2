/- A pair's next and back, Seconds and Firsts, walked. -/
import Derived.Test.YthkpnnbjcendcaaBc
import Derived.Test.YthkpnnbjcendcaaPs
set_option linter.unusedVariables false
set_option linter.unusedSimpArgs false
open Go.RowKit Go.Proofs.Ythkpnnbjcendcaa.X Go.Proofs.Ythkpnnbjcendcaa.Pl Go.Proofs.Ythkpnnbjcendcaa.Sp Go.Proofs.Ythkpnnbjcendcaa.Pure Go.Proofs.YthkpnnbjcendcaaW.PrintWords Go.Proofs.YthkpnnbjcendcaaW.PrintLast Go.Proofs.YthkpnnbjcendcaaW.PrintMore
namespace Go.Proofs.Ythkpnnbjcendcaa.Sc
/-- A pair in memory. -/
abbrev pairR (g : Nat) (a b : Int) : Res := box g #[.int .i64 a, .int .i64 b] 87
set_option maxRecDepth 100000 in
theorem next_calls (g : Nat) (a b n : Int) (w0 w : World) (hB : Below w0.heap.size w0 w) (hO : Own w0.heap.size w (pairR g a b)) :
    Calls Try.prog 64 #[.pointer (some ⟨g, 0, none⟩), .int .i64 n] w fun e w' => e = .returned (.int .i64 (wrap64 (wrap64 (n - a) - b))) ∧ Turned w0 w w' (fun k => k = g) (fun _ => pairR g n (wrap64 (n - a))) := by
  have HB := Aside0.mk hB
  have HS := Aside0.mk (Sep.start hO)
  have hc0 := Sep.c20 HS.out
  have hc1 := Sep.c21 HS.out
  have hf0 := Sep.free HS.out 0
  have hf1 := Sep.free HS.out 1
  clear hB hO
  go_enter Try.func64, Try.ntmps64
  go_wp2
  go_ret
  exact ⟨rfl, Turned.of_sep (mk := fun _ => pairR g n (wrap64 (n - a))) (F' := fun _ => True) ((HS.out.s20 _).s21 _) HB.out (below_set (below_set HB.out HS.out.ge) HS.out.ge)⟩
set_option maxHeartbeats 8000000 in
set_option maxRecDepth 100000 in
theorem back_calls (g : Nat) (a b n : Int) (w0 w : World) (hB : Below w0.heap.size w0 w) (hO : Own w0.heap.size w (pairR g a b)) :
    Calls Try.prog 71 #[.pointer (some ⟨g, 0, none⟩), .int .i64 n] w fun e w' => e = .returned (.int .i64 (wrap64 (a + wrap64 (b + n)))) ∧ Turned w0 w w' (fun k => k = g) (fun _ => pairR g (wrap64 (a + wrap64 (b + n))) (wrap64 (b + n))) := by
  have HB0 := Aside0.mk hB
  have HB := Aside0.mk hB
  have HS := Aside0.mk (Sep.start hO)
  have hc0 := Sep.c20 HS.out
  have hc1 := Sep.c21 HS.out
  have hf0 := Sep.free HS.out 0
  have hf1 := Sep.free HS.out 1
  clear hB hO
  go_enter Try.func71, Try.ntmps71
  go_wp2
  have n0_ := Aside0.mk (below_set (j := 1) (v := .int .i64 (wrap64 (b + n))) HB.out HS.out.ge); have n1_ := Aside0.mk (HS.out.s21 (.int .i64 (wrap64 (b + n)))); clear HB HS; have HB := n0_; have HS := n1_; clear n0_ n1_
  clear hc0 hc1 hf0 hf1
  generalize (w.setCell ⟨g, 1, none⟩ (.int .i64 (wrap64 (b + n)))) = w1 at HB HS ⊢
  refine start_ (n := 12) (S := fun w' => w'.cell? ⟨g, 0, none⟩ = some (.int .i64 a) ∧ w'.cell? ⟨g, 1, none⟩ = some (.int .i64 (wrap64 (b + n)))) (ds := [11]) #[false, false, false, false, false, false, false, false, false, false, false, false] (by kernel_rfl) rfl rfl ⟨Sep.c20 (sep_drew HS.out), Sep.c21 (sep_drew HS.out)⟩ (fun hHeld => ?_)
  have n0_ := Aside0.mk (below_drew HB.out)
  have n1_ := Aside0.mk (sep_drew HS.out)
  clear HB HS
  have HB := n0_
  have HS := n1_
  clear n0_ n1_
  generalize (World.drew w1) = wd_ at HB HS hHeld ⊢
  refine pure_ (i := 0) (N := some 13) (v := ?_) (a' := ?_) #[true, false, false, false, false, false, false, false, false, false, false, false] rfl rfl (by kernel_rfl) (fun _ _ _ h => h) (Or.inl ⟨by rfl, ?_⟩) ?_ ?_
  rotate_left
  · intro w'
    go_simp
    with_reducible rfl
  rotate_left
  · simp only [Act.put, List.setIfInBounds_toArray, List.set_cons_zero, List.set_cons_succ, i64_w, i32_w]
    rfl
  refine pure_ (i := 1) (N := some 14) (v := ?_) (a' := ?_) #[true, true, false, false, false, false, false, false, false, false, false, false] rfl rfl (by kernel_rfl) (fun _ _ _ h => h) (Or.inl ⟨by rfl, ?_⟩) ?_ ?_
  rotate_left
  · intro w'
    go_simp
    with_reducible rfl
  rotate_left
  · simp only [Act.put, List.setIfInBounds_toArray, List.set_cons_zero, List.set_cons_succ, i64_w, i32_w]
    rfl
  refine pure_ (i := 2) (N := some 15) (v := ?_) (a' := ?_) #[true, true, true, false, false, false, false, false, false, false, false, false] rfl rfl (by kernel_rfl) (fun _ _ _ h => h) (Or.inl ⟨by rfl, ?_⟩) ?_ ?_
  rotate_left
  · intro w'
    go_simp
    with_reducible rfl
  rotate_left
  · simp only [Act.put, List.setIfInBounds_toArray, List.set_cons_zero, List.set_cons_succ, i64_w, i32_w]
    rfl
  refine pure_ (i := 4) (N := some 17) (v := ?_) (a' := ?_) #[true, true, true, false, true, false, false, false, false, false, false, false] rfl rfl (by kernel_rfl) (fun _ _ _ h => h) (Or.inl ⟨by rfl, ?_⟩) ?_ ?_
  rotate_left
  · intro w'
    go_simp
    with_reducible rfl
  rotate_left
  · simp only [Act.put, List.setIfInBounds_toArray, List.set_cons_zero, List.set_cons_succ, i64_w, i32_w]
    rfl
  refine pure_ (i := 5) (N := some 18) (v := ?_) (a' := ?_) #[true, true, true, false, true, true, false, false, false, false, false, false] rfl rfl (by kernel_rfl) (fun _ _ _ h => h) (Or.inl ⟨by rfl, ?_⟩) ?_ ?_
  rotate_left
  · intro w'
    go_simp
    with_reducible rfl
  rotate_left
  · simp only [Act.put, List.setIfInBounds_toArray, List.set_cons_zero, List.set_cons_succ, i64_w, i32_w]
    rfl
  refine pure_ (i := 6) (N := some 19) (v := ?_) (a' := ?_) #[true, true, true, false, true, true, true, false, false, false, false, false] rfl rfl (by kernel_rfl) (fun _ _ _ h => h) (Or.inl ⟨by rfl, ?_⟩) ?_ ?_
  rotate_left
  · intro w'
    go_simp
    with_reducible rfl
  rotate_left
  · simp only [Act.put, List.setIfInBounds_toArray, List.set_cons_zero, List.set_cons_succ, i64_w, i32_w]
    rfl
  refine take_ (i := 3) (N := some 16) (v := ?_) (a' := ?_) #[true, true, true, true, true, true, true, false, false, false, false, false] rfl rfl (by kernel_rfl) (fun _ _ _ h => h) (Or.inl ⟨by rfl, ?_⟩) hHeld ?_ ?_
  rotate_left
  · rintro w' ⟨s0, s1⟩
    go_simp
    with_reducible rfl
  rotate_left
  · simp only [Act.put, List.setIfInBounds_toArray, List.set_cons_zero, List.set_cons_succ, i64_w, i32_w]
    rfl
  refine take_ (i := 7) (N := some 20) (v := ?_) (a' := ?_) #[true, true, true, true, true, true, true, true, false, false, false, false] rfl rfl (by kernel_rfl) (fun _ _ _ h => h) (Or.inl ⟨by rfl, ?_⟩) hHeld ?_ ?_
  rotate_left
  · rintro w' ⟨s0, s1⟩
    go_simp
    with_reducible rfl
  rotate_left
  · simp only [Act.put, List.setIfInBounds_toArray, List.set_cons_zero, List.set_cons_succ, i64_w, i32_w]
    rfl
  refine pure_ (i := 8) (N := some 21) (v := ?_) (a' := ?_) #[true, true, true, true, true, true, true, true, true, false, false, false] rfl rfl (by kernel_rfl) (fun _ _ _ h => h) (Or.inl ⟨by rfl, ?_⟩) ?_ ?_
  rotate_left
  · intro w'
    go_simp
    with_reducible rfl
  rotate_left
  · simp only [Act.put, List.setIfInBounds_toArray, List.set_cons_zero, List.set_cons_succ, i64_w, i32_w]
    rfl
  refine pure_ (i := 9) (N := some 22) (v := ?_) (a' := ?_) #[true, true, true, true, true, true, true, true, true, true, false, false] rfl rfl (by kernel_rfl) (fun _ _ _ h => h) (Or.inl ⟨by rfl, ?_⟩) ?_ ?_
  rotate_left
  · intro w'
    go_simp
    with_reducible rfl
  rotate_left
  · simp only [Act.put, List.setIfInBounds_toArray, List.set_cons_zero, List.set_cons_succ, i64_w, i32_w]
    rfl
  refine pure_ (i := 10) (N := some 23) (v := ?_) (a' := ?_) #[true, true, true, true, true, true, true, true, true, true, true, false] rfl rfl (by kernel_rfl) (fun _ _ _ h => h) (Or.inl ⟨by rfl, ?_⟩) ?_ ?_
  rotate_left
  · intro w'
    go_simp
    with_reducible rfl
  rotate_left
  · simp only [Act.put, List.setIfInBounds_toArray, List.set_cons_zero, List.set_cons_succ, i64_w, i32_w]
    rfl
  refine last_ (i := 11) (N := none) #[true, true, true, true, true, true, true, true, true, true, true, true] rfl rfl (by kernel_rfl) (by decide) (fun K hK => ?_)
  have hc0 := Sep.c20 HS.out
  have hf0 := Sep.free HS.out 0
  refine skip_ (w1 := ?_) (by rfl) rfl ?_ ?_
  rotate_left
  · go_simp
    rfl
  refine hK.out _ _ ?_
  clear hK K
  refine done_ (by kernel_rfl) ?_
  go_wp2
  go_ret
  exact ⟨rfl, Turned.of_sep (mk := fun _ => pairR g (wrap64 (a + wrap64 (b + n))) (wrap64 (b + n))) (F' := fun _ => True) (HS.out.s20 _) HB0.out (below_set HB.out HS.out.ge)⟩
set_option maxHeartbeats 8000000 in
set_option maxRecDepth 100000 in
theorem seconds_calls (A0 : Option Addr) (c0 : Nat) (l0 : List Int) (w : World) (hr0 : Kd.C (Kd.int .i64) w A0 l0.length l0) (hl : l0.length ≤ 1000000) :
    Calls Try.prog 35 #[.slice A0 l0.length c0] w fun e w' => ∃ v, e = .returned v ∧ Kd.R (Kd.int .i64) 3 w' w.heap.size (fun _ => True) v (secs 0 0 l0) ∧ Below w.heap.size w w' := by
  have HB := Aside0.mk (Below.refl w.heap.size w)
  have HS := Aside0.mk (Sep.nil w.heap.size w)
  have HR := Aside0.mk hr0
  have HL := Aside0.mk hl
  clear hr0 hl
  go_enter Try.func35, Try.ntmps35
  go_wp2_with (first
    | ((with_reducible refine gate_dst (N := 3) rfl ?_); (try (refine gate_guard (by rfl) ?_; dsimp only)); refine box_event ?hg (N := 3) ?hd (cs := #[.int .i64 0, .int .i64 0]) (t := 87) ?hr ?_; (case hd => rfl); (case hg => rfl); (case hr => first | (go_simp; done) | (go_simp; rfl)); intro g hg w1 hbox hb; have n0_ := Aside0.mk (below_step (by repeat (first | (with_reducible first | exact HB.out | apply below_alloc | apply pw_below_drewN | apply below_drew1) | exact HB.out)) hb); have n1_ := Aside0.mk (Sep.newbox (by repeat (first | (with_reducible first | exact HS.out | apply sep_alloc | apply sep_drewN | apply sep_drew) | exact HS.out)) hb (Nat.le_of_eq hg.symm) (below_size (by repeat (first | (with_reducible first | exact HB.out | apply below_alloc | apply pw_below_drewN | apply below_drew1) | exact HB.out))) hbox); clear HB HS; have HB := n0_; have HS := n1_; clear n0_ n1_ hb hbox hg))
  go_loopg [4, 9] l0.length (fun kq v4 v9 w' => ∃ (j : Nat) (a b : Int) (O : List Int) (F : Nat → Prop), v9 = .int .i64 (j : Int) ∧ Aside0 (kq + j = l0.length ∧ O.length = j ∧ O ++ secs a b (l0.drop j) = secs 0 0 l0) ∧ Aside0 (Sep w.heap.size w' [row F (Kd.int .i64) 3 w.heap.size v4 O, pairR g a b]) ∧ Aside0 (Below w.heap.size w w'))
  case atStart => exact ⟨0, 0, 0, [], _, rfl, ⟨by omega, rfl, by simp⟩, ⟨HS.out.nilrow (Kd.int .i64) 3⟩, HB⟩
  case round =>
    clear HS HB
    obtain ⟨j, a, b, O, F, rfl, HI, HS, HB⟩ := hrel
    obtain ⟨A_, c_, e_⟩ := Kd.R_slice (Sep.R HS.out)
    subst e_
    by_cases hlt : j < l0.length
    · obtain ⟨k1, rfl⟩ : ∃ m, gk = m + 1 := ⟨gk - 1, by have := HI.out; omega⟩
      have c1b : decide ((j : Int) < (l0.length : Int)) = true := decide_eq_true (by omega)
      have c1n : decide (j < l0.length) = true := decide_eq_true hlt
      have hnx : wrap64 ((j : Int) + 1) = ((j + 1 : Nat) : Int) := by have := HL.out; rw [w64 (by omega) (by omega)]; simp
      obtain ⟨ad, e1, hx0⟩ := Kd.at_int HR.out (j : Int) (by omega) (by omega)
      cases e1
      rw [Int.toNat_natCast] at hx0
      replace hx0 := (HB.out.cell (World.block_lt_of_cell? w _ hx0)).trans hx0
      have hdr : l0.drop j = rd l0 (j : Int) :: l0.drop (j + 1) := by
        rw [List.drop_eq_getElem_cons hlt]
        unfold rd
        rw [Int.toNat_natCast, getD_lt _ _ _ hlt]
      obtain ⟨x, hx⟩ : ∃ x, x = rd l0 (j : Int) := ⟨_, rfl⟩
      rw [← hx] at hx0 hdr
      have HDR := Aside0.mk hdr
      have HX := Aside0.mk hnx
      have c4 := eq_true hlt
      have c5 := eq_true (show (j : Int) < (l0.length : Int) by omega)
      have c6 := eq_true (show 0 ≤ (j : Int) by omega)
      clear hnx hlt hdr hx
      go_wp2_with (first
        | (go_at_call 64; (with_reducible refine (next_calls g a b x w _ HB.out HS.out.p2.own).mono ?_); rintro e w6 ⟨rfl, ht⟩; obtain ⟨F_, hs_⟩ := Turned.sep ht (HS.out.p2) rfl; have n0_ := Aside0.mk (Turned.below ht); clear HB HS ht; have HB := n0_; have HS := Aside0.mk hs_; clear n0_ hs_)
        | ((with_reducible refine gate_builtin (b := .append) (xs := #[.tmp 13, .tmp 16]) rfl ?_); (at_builtin); (refine wp_append (Kd.int .i64) (w0 := w) rfl (.tmp 13) (.tmp 16) 54 3 (.int .i64 0) 8 rfl Try.underlying54 info3 rfl (by decide) (by omega) (wrap64 (wrap64 (x - a) - b)) [.int .i64 (wrap64 (wrap64 (x - a) - b))] HS.out.p2 rfl rfl rfl (by repeat (first | (with_reducible first | exact HB.out | apply below_alloc | apply pw_below_drewN | apply below_drew1) | exact HB.out)) (by have := HI.out; have := HL.out; omega) ?_); (intro v_ w_ F_ hs_ hb_); (obtain ⟨O1, hy_⟩ : ∃ y_, y_ = O ++ [wrap64 (wrap64 (x - a) - b)] := ⟨_, rfl⟩; rw [← hy_] at hs_; have HO1 := Aside0.mk hy_; clear hy_ HB HS; have HB := Aside0.mk hb_; have HS := Aside0.mk hs_; clear hs_ hb_; obtain ⟨A_, c_, e_⟩ := Kd.R_slice (Sep.R HS.out); subst e_); (skip)))
      go_roundg k1
      case measure => omega
      case rel => exact ⟨j + 1, x, wrap64 (x - a), O1, _, (by first | rfl | rw [HX.out]), ⟨by have := HI.out; omega, by rw [HO1.out, List.length_append, HI.out.2.1]; rfl, by rw [← HI.out.2.2, HO1.out, HDR.out, secs, List.append_assoc]; rfl⟩, HS, HB⟩
    · have c1b : decide ((j : Int) < (l0.length : Int)) = false := decide_eq_false (by omega)
      have c1n : decide (j < l0.length) = false := decide_eq_false hlt
      have hO : O = secs 0 0 l0 := by
        have := HI.out.2.2
        rw [List.drop_of_length_le (by omega), show secs a b [] = [] from rfl, List.append_nil] at this
        exact this
      have HO := Aside0.mk hO
      clear hlt hO
      go_wp2
      go_ret
      exact ⟨_, rfl, by rw [← HO.out]; exact Kd.R_mono (Sep.R HS.out) (fun _ _ => trivial), HB.out⟩
set_option maxHeartbeats 8000000 in
set_option maxRecDepth 100000 in
theorem firsts_calls (A0 : Option Addr) (c0 : Nat) (l0 : List Int) (w : World) (hr0 : Kd.C (Kd.int .i64) w A0 l0.length l0) (hl : l0.length ≤ 1000000) :
    Calls Try.prog 39 #[.slice A0 l0.length c0] w fun e w' => ∃ v, e = .returned v ∧ Kd.R (Kd.int .i64) 3 w' w.heap.size (fun _ => True) v (frs 0 0 l0) ∧ Below w.heap.size w w' := by
  have HB := Aside0.mk (Below.refl w.heap.size w)
  have HS := Aside0.mk (Sep.nil w.heap.size w)
  have HR := Aside0.mk hr0
  have HL := Aside0.mk hl
  clear hr0 hl
  go_enter Try.func39, Try.ntmps39
  go_wp2_with (first
    | ((with_reducible refine gate_dst (N := 3) rfl ?_); (try (refine gate_guard (by rfl) ?_; dsimp only)); refine box_event ?hg (N := 3) ?hd (cs := #[.int .i64 0, .int .i64 0]) (t := 87) ?hr ?_; (case hd => rfl); (case hg => rfl); (case hr => first | (go_simp; done) | (go_simp; rfl)); intro g hg w1 hbox hb; have n0_ := Aside0.mk (below_step (by repeat (first | (with_reducible first | exact HB.out | apply below_alloc | apply pw_below_drewN | apply below_drew1) | exact HB.out)) hb); have n1_ := Aside0.mk (Sep.newbox (by repeat (first | (with_reducible first | exact HS.out | apply sep_alloc | apply sep_drewN | apply sep_drew) | exact HS.out)) hb (Nat.le_of_eq hg.symm) (below_size (by repeat (first | (with_reducible first | exact HB.out | apply below_alloc | apply pw_below_drewN | apply below_drew1) | exact HB.out))) hbox); clear HB HS; have HB := n0_; have HS := n1_; clear n0_ n1_ hb hbox hg))
  go_loopg [4, 9] l0.length (fun kq v4 v9 w' => ∃ (j : Nat) (a b : Int) (O : List Int) (F : Nat → Prop), v9 = .int .i64 (j : Int) ∧ Aside0 (kq + j = l0.length ∧ O.length = j ∧ O ++ frs a b (l0.drop j) = frs 0 0 l0) ∧ Aside0 (Sep w.heap.size w' [row F (Kd.int .i64) 3 w.heap.size v4 O, pairR g a b]) ∧ Aside0 (Below w.heap.size w w'))
  case atStart => exact ⟨0, 0, 0, [], _, rfl, ⟨by omega, rfl, by simp⟩, ⟨HS.out.nilrow (Kd.int .i64) 3⟩, HB⟩
  case round =>
    clear HS HB
    obtain ⟨j, a, b, O, F, rfl, HI, HS, HB⟩ := hrel
    obtain ⟨A_, c_, e_⟩ := Kd.R_slice (Sep.R HS.out)
    subst e_
    by_cases hlt : j < l0.length
    · obtain ⟨k1, rfl⟩ : ∃ m, gk = m + 1 := ⟨gk - 1, by have := HI.out; omega⟩
      have c1b : decide ((j : Int) < (l0.length : Int)) = true := decide_eq_true (by omega)
      have c1n : decide (j < l0.length) = true := decide_eq_true hlt
      have hnx : wrap64 ((j : Int) + 1) = ((j + 1 : Nat) : Int) := by have := HL.out; rw [w64 (by omega) (by omega)]; simp
      obtain ⟨ad, e1, hx0⟩ := Kd.at_int HR.out (j : Int) (by omega) (by omega)
      cases e1
      rw [Int.toNat_natCast] at hx0
      replace hx0 := (HB.out.cell (World.block_lt_of_cell? w _ hx0)).trans hx0
      have hdr : l0.drop j = rd l0 (j : Int) :: l0.drop (j + 1) := by
        rw [List.drop_eq_getElem_cons hlt]
        unfold rd
        rw [Int.toNat_natCast, getD_lt _ _ _ hlt]
      obtain ⟨x, hx⟩ : ∃ x, x = rd l0 (j : Int) := ⟨_, rfl⟩
      rw [← hx] at hx0 hdr
      have HDR := Aside0.mk hdr
      have HX := Aside0.mk hnx
      have c4 := eq_true hlt
      have c5 := eq_true (show (j : Int) < (l0.length : Int) by omega)
      have c6 := eq_true (show 0 ≤ (j : Int) by omega)
      clear hnx hlt hdr hx
      go_wp2_with (first
        | (go_at_call 71; (with_reducible refine (back_calls g a b x w _ HB.out HS.out.p2.own).mono ?_); rintro e w6 ⟨rfl, ht⟩; obtain ⟨F_, hs_⟩ := Turned.sep ht (HS.out.p2) rfl; have n0_ := Aside0.mk (Turned.below ht); clear HB HS ht; have HB := n0_; have HS := Aside0.mk hs_; clear n0_ hs_)
        | ((with_reducible refine gate_builtin (b := .append) (xs := #[.tmp 13, .tmp 16]) rfl ?_); (at_builtin); (refine wp_append (Kd.int .i64) (w0 := w) rfl (.tmp 13) (.tmp 16) 54 3 (.int .i64 0) 8 rfl Try.underlying54 info3 rfl (by decide) (by omega) (wrap64 (a + wrap64 (b + x))) [.int .i64 (wrap64 (a + wrap64 (b + x)))] HS.out.p2 rfl rfl rfl (by repeat (first | (with_reducible first | exact HB.out | apply below_alloc | apply pw_below_drewN | apply below_drew1) | exact HB.out)) (by have := HI.out; have := HL.out; omega) ?_); (intro v_ w_ F_ hs_ hb_); (obtain ⟨O1, hy_⟩ : ∃ y_, y_ = O ++ [wrap64 (a + wrap64 (b + x))] := ⟨_, rfl⟩; rw [← hy_] at hs_; have HO1 := Aside0.mk hy_; clear hy_ HB HS; have HB := Aside0.mk hb_; have HS := Aside0.mk hs_; clear hs_ hb_; obtain ⟨A_, c_, e_⟩ := Kd.R_slice (Sep.R HS.out); subst e_); (skip)))
      go_roundg k1
      case measure => omega
      case rel => exact ⟨j + 1, wrap64 (a + wrap64 (b + x)), wrap64 (b + x), O1, _, (by first | rfl | rw [HX.out]), ⟨by have := HI.out; omega, by rw [HO1.out, List.length_append, HI.out.2.1]; rfl, by rw [← HI.out.2.2, HO1.out, HDR.out, frs, List.append_assoc]; rfl⟩, HS, HB⟩
    · have c1b : decide ((j : Int) < (l0.length : Int)) = false := decide_eq_false (by omega)
      have c1n : decide (j < l0.length) = false := decide_eq_false hlt
      have hO : O = frs 0 0 l0 := by
        have := HI.out.2.2
        rw [List.drop_of_length_le (by omega), show frs a b [] = [] from rfl, List.append_nil] at this
        exact this
      have HO := Aside0.mk hO
      clear hlt hO
      go_wp2
      go_ret
      exact ⟨_, rfl, by rw [← HO.out]; exact Kd.R_mono (Sep.R HS.out) (fun _ _ => trivial), HB.out⟩
end Go.Proofs.Ythkpnnbjcendcaa.Sc
