/- The reference's bytes of bits. -/
import Derived.Test.YthkpnnbjcendcaaRb
import Derived.Test.YthkpnnbjcendcaaPpk
set_option linter.unusedVariables false
set_option linter.unusedSimpArgs false
open Go.RowKit Go.Proofs.Ythkpnnbjcendcaa.X Go.Proofs.Ythkpnnbjcendcaa.Pl Go.Proofs.Ythkpnnbjcendcaa.Sp Go.Proofs.Ythkpnnbjcendcaa.Pure Go.Proofs.YthkpnnbjcendcaaW.PrintWords Go.Proofs.YthkpnnbjcendcaaW.PrintLast Go.Proofs.YthkpnnbjcendcaaW.PrintMore
namespace Go.Proofs.Ythkpnnbjcendcaa.Sc
set_option maxHeartbeats 8000000 in
set_option maxRecDepth 100000 in
theorem refbytes_calls (base g : Nat) (F0 : Nat → Prop) (L : List Bool) (w : World) (hO : Own base w (refR base g L F0)) (hm : L.length ≤ 262144) :
    Calls Try.prog 26 #[.pointer (some ⟨g, 0, none⟩)] w fun e w' => ∃ v, e = .returned v ∧ Kd.R (Kd.int .u8) 5 w' w.heap.size (fun _ => True) v (pack L) ∧ Below w.heap.size w w' := by
  obtain ⟨v0, hb0, hr0, hF⟩ := hO.now
  obtain ⟨A0, c0, rfl⟩ := Kd.R_slice hr0
  have HB := Aside0.mk (Below.refl w.heap.size w)
  have HS := Aside0.mk (Sep.nil w.heap.size w)
  have HG := Aside0.mk hb0
  have HR := Aside0.mk hr0
  have hc0 : w.cell? ⟨g, 0, none⟩ = some (.slice A0 L.length c0) := (blk_cell hb0 0).trans rfl
  obtain ⟨n8, hn8⟩ : ∃ n8 : Nat, n8 = (L.length + 7) / 8 := ⟨_, rfl⟩
  have hw8 : wrap64 (Int.tdiv (wrap64 ((L.length : Int) + 7)) 8) = (n8 : Int) := by
    rw [w64 (x := (L.length : Int) + 7) (by omega) (by omega), tdiv_pos (by omega), w64 (by omega) (by omega)]; omega
  have HM := Aside0.mk hm
  have H8 := Aside0.mk hn8
  clear hO hb0 hr0 hm hn8 hF
  go_enter Try.func26, Try.ntmps26
  go_wp2_with (first
    | ((with_reducible refine gate_dst (N := 12) rfl ?_); (try (refine gate_guard (by rfl) ?_; dsimp only)); go_loud (refine wp_make (Kd.int .u8) (w0 := w) rfl (N := 12) rfl 24 5 (.tmp 11) (.tmp 11) rfl (n8) Try.underlying24 (.int .u8 0) 1 info5 rfl (by decide) (by omega) (0) (rfl) (by have := HM.out; have := H8.out; omega) (by repeat (first | (with_reducible first | exact HS.out | apply sep_alloc | apply sep_drewN | apply sep_drew) | exact HS.out)) (by repeat (first | (with_reducible first | exact HB.out | apply below_alloc | apply pw_below_drewN | apply below_drew1) | exact HB.out)) ?hx_ ?hy_ ?_; (case hx_ => first | rfl | (go_simp; done)); (case hy_ => first | rfl | (go_simp; done))); intro A_ c_ w_ F_ hs_ hb_; clear HB HS; have HB := Aside0.mk hb_; have HS := Aside0.mk hs_; clear hs_ hb_; go_loud (clear hc0)))
  go_loopg [4] L.length (fun kq v4 w' => ∃ (p : Nat) (F : Nat → Prop) (B : List Int), v4 = .int .i64 (p : Int) ∧ Aside0 (kq + p = L.length ∧ B = packN n8 (L.take p)) ∧ Aside0 (Sep w.heap.size w' [row F (Kd.int .u8) 5 w.heap.size (.slice A_ n8 c_) B]) ∧ Aside0 (Below w.heap.size w w'))
  case atStart => exact ⟨0, _, _, rfl, ⟨by omega, by rw [List.take_zero, packN_nil]⟩, HS, HB⟩
  case round =>
    clear HS HB hw8
    obtain ⟨p, F, B, rfl, HI, HS, HB⟩ := hrel
    have hc0 : wr.cell? ⟨g, 0, none⟩ = some (.slice A0 L.length c0) := (blk_cell (blk_below HG.out HB.out) 0).trans rfl
    by_cases hlt : p < L.length
    · obtain ⟨k1, rfl⟩ : ∃ m, gk = m + 1 := ⟨gk - 1, by have := HI.out; omega⟩
      have c1b : decide ((p : Int) < (L.length : Int)) = true := decide_eq_true (by omega)
      have c1n : decide (p < L.length) = true := decide_eq_true hlt
      have c2 : 0 ≤ (p : Int) := by omega
      have hnx : wrap64 ((p : Int) + 1) = ((p + 1 : Nat) : Int) := by have := HM.out; rw [w64 (by omega) (by omega)]; simp
      obtain ⟨ad, e1, hx0⟩ := Kd.at_bool (Kd.R_reads' HR.out).2.2 (p : Int) c2 (by omega)
      cases e1
      rw [Int.toNat_natCast] at hx0
      replace hx0 := (HB.out.cell (World.block_lt_of_cell? w _ hx0)).trans hx0
      have hget : L.take (p + 1) = L.take p ++ [rdOf false L (p : Int)] := by
        rw [List.take_succ_eq_append_getElem hlt]
        unfold rdOf
        rw [Int.toNat_natCast, getD_lt _ _ _ hlt]
      have HX := Aside0.mk hnx
      have HGT := Aside0.mk hget
      have c4 := eq_true hlt
      have c5 := eq_true (show (p : Int) < (L.length : Int) by omega)
      have c6 := eq_true c2
      have hp8 : p / 8 < n8 := by have := H8.out; omega
      have hlB : B.length = n8 := by rw [HI.out.2, packN_length]
      obtain ⟨gb, cb, e2, hgb⟩ := Kd.R_form (Sep.R HS.out) (by omega)
      obtain ⟨rfl, rfl⟩ : A_ = some ⟨gb, 0, none⟩ ∧ c_ = cb := by injection e2 with h1 h2 h3; exact ⟨h1, h3⟩
      cases hv : rdOf false L (p : Int) with
      | false =>
        rw [hv] at hx0 HGT
        have HP := Aside0.mk (show B = packN n8 (L.take (p + 1)) by rw [HGT.out, packN_false]; exact HI.out.2)
        clear hnx hget hlt c2 hp8 hv hgb e2 hlB
        go_wp2
        go_roundg k1
        case measure => omega
        case rel => exact ⟨p + 1, _, B, (by first | rfl | rw [HX.out]), ⟨by have := HI.out; omega, HP.out⟩, HS, HB⟩
      | true =>
        rw [hv] at hx0 HGT
        have hlen : (L.take p).length = p := by rw [List.length_take]; omega
        obtain ⟨hp1, hp2, hp3⟩ := packN_true n8 (L.take p) (by rw [hlen]; exact hp8)
        rw [hlen, ← HI.out.2] at hp1 hp2 hp3
        obtain ⟨q, hq⟩ : ∃ q : Nat, q = p / 8 := ⟨_, rfl⟩
        rw [← hq] at hp1 hp2 hp3
        obtain ⟨x, hx⟩ : ∃ x : Int, x = B.getD q 0 := ⟨_, rfl⟩
        rw [← hx] at hp1 hp2 hp3
        have HP1 := Aside0.mk hp1
        have HP2 := Aside0.mk hp2
        have HP3 := Aside0.mk hp3
        have HXX := Aside0.mk hx
        have HQ := Aside0.mk (show q < n8 by rw [hq]; exact hp8)
        have HQ2 := Aside0.mk hq
        obtain ⟨r, hr⟩ : ∃ r : Nat, r = p % 8 := ⟨_, rfl⟩
        have HR2 := Aside0.mk hr
        clear hp1 hp2 hp3 hx hp8 hv hgb e2 hlB hlen hget
        have hq2 : Int.tdiv (p : Int) 8 = (q : Int) := by rw [tdiv_pos (by omega)]; omega
        have hq3 : wrap64 (q : Int) = (q : Int) := w64 (by omega) (by have := HM.out; omega)
        have hr2 : Int.tmod (p : Int) 8 = (r : Int) := by rw [tmod_pos (by omega)]; omega
        have hr0 := eq_true (show 0 ≤ (r : Int) by omega)
        have hq1 := eq_true HQ.out
        have hq0 := eq_true (show 0 ≤ (q : Int) by omega)
        have hcx := (Sep.celli HS.out q HQ.out).1
        rw [← HXX.out] at hcx
        clear hnx hlt c2 hq hr
        go_wp2
        refine start_ (n := 14) (S := fun w' => w'.cell? ⟨gb, q, none⟩ = some (.int .u8 x)) (ds := [13]) #[false, false, false, false, false, false, false, false, false, false, false, false, false, false] (by kernel_rfl) rfl rfl (hcx) (fun hHeld => ?_)
        have n0_ := Aside0.mk (below_drew HB.out)
        have n1_ := Aside0.mk (sep_drew HS.out)
        clear HB HS
        have HB := n0_
        have HS := n1_
        clear n0_ n1_
        generalize (World.drew wr) = wd_ at HB HS hHeld ⊢
        refine pure_ (i := 0) (N := some 29) (v := ?_) (a' := ?_) #[true, false, false, false, false, false, false, false, false, false, false, false, false, false] rfl rfl (by kernel_rfl) (fun _ _ _ h => h) (Or.inl ⟨by rfl, ?_⟩) ?_ ?_
        rotate_left
        · intro w'
          go_simp
          with_reducible rfl
        rotate_left
        · simp only [Act.put, List.setIfInBounds_toArray, List.set_cons_zero, List.set_cons_succ, i64_w, i32_w]
          rfl
        refine pure_ (i := 1) (N := some 30) (v := ?_) (a' := ?_) #[true, true, false, false, false, false, false, false, false, false, false, false, false, false] rfl rfl (by kernel_rfl) (fun _ _ _ h => h) (Or.inl ⟨by rfl, ?_⟩) ?_ ?_
        rotate_left
        · intro w'
          go_simp
          with_reducible rfl
        rotate_left
        · simp only [Act.put, List.setIfInBounds_toArray, List.set_cons_zero, List.set_cons_succ, i64_w, i32_w]
          rfl
        refine pure_ (i := 2) (N := some 31) (v := ?_) (a' := ?_) #[true, true, true, false, false, false, false, false, false, false, false, false, false, false] rfl rfl (by kernel_rfl) (fun _ _ _ h => h) (Or.inl ⟨by rfl, ?_⟩) ?_ ?_
        rotate_left
        · intro w'
          go_simp
          with_reducible rfl
        rotate_left
        · simp only [Act.put, List.setIfInBounds_toArray, List.set_cons_zero, List.set_cons_succ, i64_w, i32_w]
          rfl
        refine pure_ (i := 3) (N := some 32) (v := ?_) (a' := ?_) #[true, true, true, true, false, false, false, false, false, false, false, false, false, false] rfl rfl (by kernel_rfl) (fun _ _ _ h => h) (Or.inl ⟨by rfl, ?_⟩) ?_ ?_
        rotate_left
        · intro w'
          go_simp
          with_reducible rfl
        rotate_left
        · simp only [Act.put, List.setIfInBounds_toArray, List.set_cons_zero, List.set_cons_succ, i64_w, i32_w]
          rfl
        refine pure_ (i := 4) (N := some 33) (v := ?_) (a' := ?_) #[true, true, true, true, true, false, false, false, false, false, false, false, false, false] rfl rfl (by kernel_rfl) (fun _ _ _ h => h) (Or.inl ⟨by rfl, ?_⟩) ?_ ?_
        rotate_left
        · intro w'
          go_simp
          with_reducible rfl
        rotate_left
        · simp only [Act.put, List.setIfInBounds_toArray, List.set_cons_zero, List.set_cons_succ, i64_w, i32_w]
          rfl
        refine pure_ (i := 5) (N := some 34) (v := ?_) (a' := ?_) #[true, true, true, true, true, true, false, false, false, false, false, false, false, false] rfl rfl (by kernel_rfl) (fun _ _ _ h => h) (Or.inl ⟨by rfl, ?_⟩) ?_ ?_
        rotate_left
        · intro w'
          go_simp
          with_reducible rfl
        rotate_left
        · simp only [Act.put, List.setIfInBounds_toArray, List.set_cons_zero, List.set_cons_succ, i64_w, i32_w]
          rfl
        refine pure_ (i := 6) (N := some 35) (v := ?_) (a' := ?_) #[true, true, true, true, true, true, true, false, false, false, false, false, false, false] rfl rfl (by kernel_rfl) (fun _ _ _ h => h) (Or.inl ⟨by rfl, ?_⟩) ?_ ?_
        rotate_left
        · intro w'
          go_simp
          with_reducible rfl
        rotate_left
        · simp only [Act.put, List.setIfInBounds_toArray, List.set_cons_zero, List.set_cons_succ, i64_w, i32_w]
          rfl
        refine pure_ (i := 8) (N := some 37) (v := ?_) (a' := ?_) #[true, true, true, true, true, true, true, false, true, false, false, false, false, false] rfl rfl (by kernel_rfl) (fun _ _ _ h => h) (Or.inl ⟨by rfl, ?_⟩) ?_ ?_
        rotate_left
        · intro w'
          go_simp
          with_reducible rfl
        rotate_left
        · simp only [Act.put, List.setIfInBounds_toArray, List.set_cons_zero, List.set_cons_succ, i64_w, i32_w]
          rfl
        refine pure_ (i := 9) (N := some 38) (v := ?_) (a' := ?_) #[true, true, true, true, true, true, true, false, true, true, false, false, false, false] rfl rfl (by kernel_rfl) (fun _ _ _ h => h) (Or.inl ⟨by rfl, ?_⟩) ?_ ?_
        rotate_left
        · intro w'
          go_simp
          with_reducible rfl
        rotate_left
        · simp only [Act.put, List.setIfInBounds_toArray, List.set_cons_zero, List.set_cons_succ, i64_w, i32_w]
          rfl
        refine pure_ (i := 10) (N := some 39) (v := ?_) (a' := ?_) #[true, true, true, true, true, true, true, false, true, true, true, false, false, false] rfl rfl (by kernel_rfl) (fun _ _ _ h => h) (Or.inl ⟨by rfl, ?_⟩) ?_ ?_
        rotate_left
        · intro w'
          go_simp
          with_reducible rfl
        rotate_left
        · simp only [Act.put, List.setIfInBounds_toArray, List.set_cons_zero, List.set_cons_succ, i64_w, i32_w]
          rfl
        refine take_ (i := 7) (N := some 36) (v := ?_) (a' := ?_) #[true, true, true, true, true, true, true, true, true, true, true, false, false, false] rfl rfl (by kernel_rfl) (fun _ _ _ h => h) (Or.inl ⟨by rfl, ?_⟩) hHeld ?_ ?_
        rotate_left
        · intro w' s0
          go_simp
          with_reducible rfl
        rotate_left
        · simp only [Act.put, List.setIfInBounds_toArray, List.set_cons_zero, List.set_cons_succ, i64_w, i32_w]
          rfl
        refine pure_ (i := 11) (N := some 40) (v := ?_) (a' := ?_) #[true, true, true, true, true, true, true, true, true, true, true, true, false, false] rfl rfl (by kernel_rfl) (fun _ _ _ h => h) (Or.inl ⟨by rfl, ?_⟩) ?_ ?_
        rotate_left
        · intro w'
          go_simp
          with_reducible rfl
        rotate_left
        · simp only [Act.put, List.setIfInBounds_toArray, List.set_cons_zero, List.set_cons_succ, i64_w, i32_w]
          rfl
        refine pure_ (i := 12) (N := some 41) (v := ?_) (a' := ?_) #[true, true, true, true, true, true, true, true, true, true, true, true, true, false] rfl rfl (by kernel_rfl) (fun _ _ _ h => h) (Or.inl ⟨by rfl, ?_⟩) ?_ ?_
        rotate_left
        · intro w'
          go_simp
          with_reducible rfl
        rotate_left
        · simp only [Act.put, List.setIfInBounds_toArray, List.set_cons_zero, List.set_cons_succ, i64_w, i32_w]
          rfl
        refine last_ (i := 13) (N := none) #[true, true, true, true, true, true, true, true, true, true, true, true, true, true] rfl rfl (by kernel_rfl) (by decide) (fun K hK => ?_)
        have hf := (Sep.celli HS.out q HQ.out).2
        refine skip_ (w1 := ?_) (by rfl) rfl ?_ ?_
        rotate_left
        · go_simp
          rfl
        refine hK.out _ _ ?_
        clear hK K
        refine done_ (by kernel_rfl) ?_
        have hy : B.set q (IntKind.u8.wrap (x + 128 / 2 ^ min r 8)) = packN n8 (L.take (p + 1)) := by
          have h2 := HP2.out
          have h3 := HP3.out
          rw [HGT.out, HP1.out, HR2.out, Nat.min_eq_left (by omega)]
          rw [wraps_u8 _ (by
            have : (0 : Int) ≤ 128 / 2 ^ (p % 8) := Int.ediv_nonneg (by decide) (Int.pow_nonneg (by decide))
            omega) (by omega)]
        have HY := Aside0.mk hy
        obtain ⟨F9, hs9⟩ := Sep.puti HS.out q (IntKind.u8.wrap (x + 128 / 2 ^ min r 8))
        have HS9 := Aside0.mk hs9
        have HB9 := Aside0.mk (below_set (j := q) (v := .int .u8 (IntKind.u8.wrap (x + 128 / 2 ^ min r 8))) HB.out (Nat.le_of_lt_succ (Nat.lt_succ_of_le (HS.out.own.lo gb (HS.out.R.1 gb (by simp [Value.ownBlock]))))))
        clear hy hs9
        go_wp2
        go_roundg k1
        case measure => omega
        case rel => exact ⟨p + 1, F9, _, (by first | rfl | rw [HX.out]), ⟨by have := HI.out; omega, HY.out⟩, HS9, HB9⟩
    · have c1b : decide ((p : Int) < (L.length : Int)) = false := decide_eq_false (by omega)
      have c1n : decide (p < L.length) = false := decide_eq_false hlt
      have hB : B = pack L := by
        rw [HI.out.2, List.take_of_length_le (by omega), H8.out]
        rfl
      have HE := Aside0.mk hB
      clear hlt hB
      go_wp2
      go_ret
      exact ⟨_, rfl, by rw [← HE.out]; exact Kd.R_mono (Sep.R HS.out) (fun _ _ => trivial), HB.out⟩
end Go.Proofs.Ythkpnnbjcendcaa.Sc
