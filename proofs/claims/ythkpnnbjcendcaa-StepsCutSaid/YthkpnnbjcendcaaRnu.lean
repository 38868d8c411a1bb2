/- The reference's taker: fail, Num. -/
import Derived.Test.YthkpnnbjcendcaaOnu
import Derived.Test.YthkpnnbjcendcaaRtm
import Derived.Test.YthkpnnbjcendcaaSpp
import Derived.Test.YthkpnnbjcendcaaPst
set_option linter.unusedVariables false
set_option linter.unusedSimpArgs false
open Go.RowKit Go.Proofs.Ythkpnnbjcendcaa.X Go.Proofs.Ythkpnnbjcendcaa.Pl Go.Proofs.Ythkpnnbjcendcaa.Sp Go.Proofs.Ythkpnnbjcendcaa.Pure Go.Proofs.YthkpnnbjcendcaaW.PrintWords Go.Proofs.YthkpnnbjcendcaaW.PrintLast Go.Proofs.YthkpnnbjcendcaaW.PrintMore
namespace Go.Proofs.Ythkpnnbjcendcaa.Pure
/-- The reference's step through the bytes of a number. -/
theorem ref_step {b : List Int} {i n k x z n1 k1 : Nat} (hi : i ≤ 9) (hk : k = 128 ^ i) (hs : Some7 b i n) (hlt : i < b.length) (hx : b.getD i 0 = (x : Int)) (hx2 : x < 256) (hz : z = x % 128 * k % 2 ^ 64) (hn1 : n1 = (n + z) % 2 ^ 64) (hk1 : k1 = k * 128 % 2 ^ 64) :
    (x < 128 → (varint n1 = b.take (i + 1) → b = varint n1 ++ b.drop (i + 1)) ∧ (varint n1 ≠ b.take (i + 1) → ∀ (m : Nat) (r : List Int), m < 2 ^ 64 → b ≠ varint m ++ r)) ∧
    (128 ≤ x → (i + 1 ≤ 9 ∧ k1 = 128 ^ (i + 1) ∧ Some7 b (i + 1) n1 ∨ i + 1 = 10 ∧ ∀ (m : Nat) (r : List Int), m < 2 ^ 64 → b ≠ varint m ++ r)) := by
  have hn2 : n1 = (n + x % 128 * 128 ^ i) % 2 ^ 64 := by rw [hn1, hz, hk, Nat.add_mod_mod]
  have hsp : b = b.take (i + 1) ++ b.drop (i + 1) := (List.take_append_drop _ _).symm
  refine ⟨fun h128 => ⟨fun h => by rw [h]; exact hsp, fun h m r hm e => h ?_⟩, fun h128 => ?_⟩
  · obtain ⟨h1, h2, h3⟩ := (some_end hs hlt hx h128 m r).1 e
    have hnm : n1 = m := by rw [hn2, Nat.mod_eq_of_lt h128, ← h1, Nat.mod_eq_of_lt hm]
    rw [hnm]
    rw [h3] at e
    exact List.append_cancel_right (e.symm.trans hsp)
  · by_cases h9 : i = 9
    · subst h9
      exact .inr ⟨rfl, fun m r hm => some_ten hs hlt hx (by omega) hx2 m r hm⟩
    · refine .inl ⟨by omega, ?_, ?_⟩
      · have : (128 : Nat) ^ i ≤ 128 ^ 8 := Nat.pow_le_pow_right (by decide) (by omega)
        rw [show (128 : Nat) ^ 8 = 72057594037927936 from by decide] at this
        rw [hk1, hk, Nat.mod_eq_of_lt (by omega)]
        exact (Nat.pow_succ 128 i).symm
      · have hm := some_more hs hlt hx h128 hx2
        have h1 := hm.1
        have : (128 : Nat) ^ (i + 1) ≤ 128 ^ 9 := Nat.pow_le_pow_right (by decide) (by omega)
        rw [show (128 : Nat) ^ 9 = 9223372036854775808 from by decide] at this
        rw [hn2, Nat.mod_eq_of_lt (by omega)]
        exact hm
end Go.Proofs.Ythkpnnbjcendcaa.Pure
namespace Go.Proofs.Ythkpnnbjcendcaa.Sc
/-- The reference's taker in memory. -/
abbrev rtR (g : Nat) (v : Value) (bad : Bool) : Res := box g #[v, .bool bad] 104
set_option maxRecDepth 100000 in
theorem rfail_calls (g : Nat) (v : Value) (bad : Bool) (w0 w : World) (hB : Below w0.heap.size w0 w) (hO : Own w0.heap.size w (rtR g v bad)) :
    Calls Try.prog 103 #[.pointer (some ⟨g, 0, none⟩)] w fun e w' => e = .returned (.tuple #[]) ∧ Turned w0 w w' (fun k => k = g) (fun _ => rtR g (.slice none 0 0) true) := by
  have HB := Aside0.mk hB
  have HS := Aside0.mk (Sep.start hO)
  have hc0 := Sep.c20 HS.out
  have hc1 := Sep.c21 HS.out
  have hf0 := Sep.free HS.out 0
  have hf1 := Sep.free HS.out 1
  clear hB hO
  go_enter Try.func103, Try.ntmps103
  go_wp2
  first | go_end0 | ((try simp only [Exit.inBlock, Exit.then]); refine bodyPost_ret (results_none rfl _ _ _) rfl ?_)
  exact ⟨rfl, Turned.of_sep (mk := fun _ => rtR g (.slice none 0 0) true) (F' := fun _ => True) ((HS.out.s21 _).s20 _) HB.out (below_set (below_set HB.out HS.out.ge) HS.out.ge)⟩
set_option maxHeartbeats 8000000 in
set_option maxRecDepth 100000 in
theorem rnum_calls (g : Nat) (A : Option Addr) (c : Nat) (b : List Int) (bad : Bool) (w0 w : World) (hB : Below w0.heap.size w0 w) (hO : Own w0.heap.size w (rtR g (.slice A b.length c) bad)) (hr : Kd.C (Kd.int .u8) w A b.length b) (hc : b.length ≤ c) (hby : Byt b) (hl : b.length < 1000000) :
    Calls Try.prog 79 #[.pointer (some ⟨g, 0, none⟩)] w fun e w' => NumR (rtR g) g A b bad w0 w e w' := by
  have HB0 := Aside0.mk hB
  have HB := Aside0.mk hB
  have HS := Aside0.mk (Sep.start hO)
  have HR := Aside0.mk hr
  have HC := Aside0.mk hc
  have HBY := Aside0.mk hby
  have HL := Aside0.mk hl
  clear hB hO hr hc hby hl
  go_enter Try.func79, Try.ntmps79
  go_wp2
  have HW := Aside0.mk (Below.refl w.heap.size w)
  go_loopg [3, 4, 5] 10 (fun kq v3 v4 v5 w' => ∃ (i n k : Nat), v3 = .int .u64 (n : Int) ∧ v4 = .int .u64 (k : Int) ∧ v5 = .int .i64 (i : Int) ∧ Aside0 (kq + i = 10 ∧ n < 2 ^ 64 ∧ k < 2 ^ 64 ∧ (i ≤ 9 ∧ k = 128 ^ i ∧ Some7 b i n ∨ i = 10 ∧ ∀ (m : Nat) (r : List Int), m < 2 ^ 64 → b ≠ varint m ++ r)) ∧ Aside0 (Sep w0.heap.size w' [rtR g (.slice A b.length c) bad, frameR w0.heap.size w (rtR g (.slice A b.length c) bad).foot]) ∧ Aside0 (Below w0.heap.size w0 w') ∧ Aside0 (Below w.heap.size w w'))
  case atStart => exact ⟨0, 0, 1, rfl, rfl, rfl, ⟨by omega, by decide, by decide, .inl ⟨by omega, by simp, some_start b⟩⟩, HS, HB, HW⟩
  case round =>
    clear HS HB HW
    obtain ⟨i, n, k, rfl, rfl, rfl, HI, HS, HB, HW⟩ := hrel
    have hc0 := Sep.c20 HS.out
    have hc1 := Sep.c21 HS.out
    have hf0 := Sep.free HS.out 0
    have hi10 : i ≤ 10 := by have := HI.out; omega
    by_cases hlt : i < b.length ∧ i < 10
    · obtain ⟨hlt, hi9⟩ := hlt
      have c1b : decide ((i : Int) < (b.length : Int)) = true := decide_eq_true (by omega)
      have c1n : decide (i < b.length) = true := decide_eq_true hlt
      have c2b : decide ((i : Int) < 10) = true := decide_eq_true (by omega)
      have c2n : decide (i < 10) = true := decide_eq_true hi9
      have hs7 : i ≤ 9 ∧ k = 128 ^ i ∧ Some7 b i n := by
        rcases HI.out.2.2.2 with h | h
        · exact h
        · omega
      obtain ⟨hi9', hk, hs7⟩ := hs7
      have hby := HBY.out (b.getD i 0) (by rw [getD_lt _ _ _ hlt]; exact List.getElem_mem _)
      obtain ⟨x, hx⟩ : ∃ x : Nat, b.getD i 0 = (x : Int) := ⟨(b.getD i 0).toNat, by omega⟩
      have hx256 : x < 256 := by omega
      obtain ⟨ad, e1, hx0⟩ := Kd.at_int HR.out (i : Int) (by omega) (by omega)
      cases e1
      rw [Int.toNat_natCast, rd_get, hx] at hx0
      replace hx0 := (HW.out.cell (World.block_lt_of_cell? w _ hx0)).trans hx0
      have c4 := eq_true hlt
      have c5 := eq_true (show (i : Int) < (b.length : Int) by omega)
      have c6 := eq_true (show 0 ≤ (i : Int) by omega)
      obtain ⟨y, hy⟩ : ∃ y, y = x % 128 := ⟨_, rfl⟩
      have hr1 : IntKind.u8.wrap (Int.tmod (x : Int) 128) = (y : Int) := by rw [tmod_pos (by omega), IntKind.wrap_u8']; omega
      have hr2 : Int.tmod (x : Int) 128 = (y : Int) := by rw [tmod_pos (by omega)]; omega
      have hr3 : IntKind.u64.wrap (y : Int) = (y : Int) := w_u64 (by omega) (by omega)
      have hr3b : IntKind.u8.wrap (y : Int) = (y : Int) := by rw [IntKind.wrap_u8']; omega
      have hr3c : (x : Int) % 128 = (y : Int) := by omega
      obtain ⟨z, hz⟩ : ∃ z, z = y * k % 2 ^ 64 := ⟨_, rfl⟩
      have hr4 : IntKind.u64.wrap ((y : Int) * (k : Int)) = (z : Int) := by rw [u64_wrap, hz, ← Int.natCast_mul]; omega
      obtain ⟨n1, hn1⟩ : ∃ m, m = (n + z) % 2 ^ 64 := ⟨_, rfl⟩
      have hr5 : IntKind.u64.wrap ((n : Int) + (z : Int)) = (n1 : Int) := by rw [u64_wrap, hn1]; omega
      obtain ⟨k1, hk1⟩ : ∃ m, m = k * 128 % 2 ^ 64 := ⟨_, rfl⟩
      have hr6 : IntKind.u64.wrap ((k : Int) * 128) = (k1 : Int) := by rw [u64_wrap, hk1]; omega
      have HRR := Aside0.mk (And.intro hr1 (And.intro hr2 (And.intro hr3 (And.intro hr3b (And.intro hr3c (And.intro hr4 (And.intro hr5 hr6)))))))
      clear hr1 hr2 hr3 hr3b hr3c hr4 hr5 hr6
      have hst := ref_step hi9' hk hs7 hlt hx hx256 (by rw [← hy]; exact hz) hn1 hk1
      have HN64 := Aside0.mk (show n1 < 2 ^ 64 by rw [hn1]; exact Nat.mod_lt _ (by decide))
      have HK64 := Aside0.mk (show k1 < 2 ^ 64 by rw [hk1]; exact Nat.mod_lt _ (by decide))
      obtain ⟨i1, hi1⟩ : ∃ j, j = i + 1 := ⟨_, rfl⟩
      have hnx : wrap64 ((i : Int) + 1) = (i1 : Int) := by rw [w64 (by omega) (by omega)]; omega
      rw [← hi1] at hst
      have HST := Aside0.mk hst
      have HI1 := Aside0.mk hi1
      clear hst hs7 hk hz hn1 hk1
      by_cases hx128 : x < 128
      · have c7 : decide ((x : Int) < 128) = true := decide_eq_true (by omega)
        have c7n : decide (x < 128) = true := decide_eq_true hx128
        obtain ⟨i05, hi05, _, hsz5, _⟩ := info_parts info5
        have hto := cut_to (P := Try.prog) 24 5 .i64 Try.underlying24 hi05 (some ad) b.length c (i1 : Int) (by omega) (by omega) HC.out
        have hfr := cut_from (P := Try.prog) 24 5 .i64 Try.underlying24 hi05 1 hsz5 (some ad) b.length c (i1 : Int) (by omega) (by omega)
        obtain ⟨r, hr⟩ : ∃ r, r = b.drop i1 := ⟨_, rfl⟩
        have HRL := Aside0.mk (show b.length - i1 = r.length by rw [hr, List.length_drop])
        obtain ⟨A4, hA4⟩ : ∃ A, A = (if c = i1 then (some ad : Option Addr) else (some ad).map (fun x => x.add (i1 * 1))) := ⟨_, rfl⟩
        have HCD := Aside0.mk (show ∀ w2, Kd.C (Kd.int .u8) w2 (some ad) b.length b → Kd.C (Kd.int .u8) w2 A4 r.length r from fun w2 h2 => by rw [hA4, hr]; exact Kd.C_drop (m := i1) h2 (by omega) HC.out)
        obtain ⟨c4_, hc4⟩ : ∃ x, x = c - i1 := ⟨_, rfl⟩
        have HC4 := Aside0.mk (show r.length ≤ c4_ by have := HC.out; rw [hc4, ← HRL.out]; omega)
        rw [Int.toNat_natCast] at hto
        rw [Int.toNat_natCast, ← hA4, HRL.out, ← hc4] at hfr
        have k1_ := eq_true (show i1 ≤ b.length by omega)
        have k1i := eq_true (show (i1 : Int) ≤ (b.length : Int) by omega)
        have k2i := eq_true (show 0 ≤ (i1 : Int) by omega)
        obtain ⟨V, hV⟩ : ∃ V, V = varint n1 := ⟨_, rfl⟩
        obtain ⟨U, hU⟩ : ∃ U, U = b.take i1 := ⟨_, rfl⟩
        have hUl : U.length = i1 := by rw [hU, List.length_take]; omega
        have HU := Aside0.mk (show Kd.C (Kd.int .u8) w (some ad) i1 U by rw [← hUl, hU]; exact C_take' HR.out i1)
        have hVU := str_inj (xs := V) (ys := U) (hV ▸ varint_byt n1) (hU ▸ fun y hy => HBY.out y (List.mem_of_mem_take hy))
        obtain ⟨sV, hsV⟩ : ∃ s, s = strOfNums V := ⟨_, rfl⟩
        obtain ⟨sU, hsU⟩ : ∃ s, s = strOfNums U := ⟨_, rfl⟩
        rw [← hsV, ← hsU] at hVU
        have HSV := Aside0.mk hsV
        have HSU := Aside0.mk hsU
        have HV := Aside0.mk hV
        have hst1 := HST.out.1 hx128
        rw [← hV, ← hU, ← hr] at hst1
        have HS1 := Aside0.mk hst1
        by_cases heq : sV = sU
        · have c8 := bytes_eq heq
          have HEQ := Aside0.mk (HS1.out.1 (hVU.1 heq))
          clear hlt hby hx hx256 hi10 hi9 hi9' hy hst1 hi1 hUl hV hU hVU hsV hsU hi05 hsz5 hr hA4 hc4 hx128 heq
          obtain ⟨hr1, hr2, hr3, hr3b, hr3c, hr4, hr5, hr6⟩ := HRR.out
          go_wp2
          clear hc0 hc1 hf0
          refine start_ (n := 12) (S := fun w' => w'.cell? ⟨g, 0, none⟩ = some (.slice (some ad) b.length c) ∧ (convert 24 9 (.slice (some ad) i1 c)).run Try.prog w' = .ok (.string sU) w') (ds := []) #[false, false, false, false, false, false, false, false, false, false, false, false] (by kernel_rfl) rfl rfl ⟨Sep.c20 (sep_drew HS.out), (by rw [HSU.out]; exact Kd.C_string Try.underlying24 Try.underlying5 Try.underlying9 (Kd.C_below HU.out (below_drew HW.out)))⟩ (fun hHeld => ?_)
          have n2_ := Aside0.mk (below_drew HW.out)
          clear HW
          have HW := n2_
          clear n2_
          have n0_ := Aside0.mk (below_drew HB.out)
          have n1_ := Aside0.mk (sep_drew HS.out)
          clear HB HS
          have HB := n0_
          have HS := n1_
          clear n0_ n1_
          generalize (World.drew wr) = wd_ at HB HS HW hHeld ⊢
          refine pure_ (i := 0) (N := some 42) (v := ?_) (a' := ?_) #[true, false, false, false, false, false, false, false, false, false, false, false] rfl rfl (by kernel_rfl) (fun _ _ _ h => h) (Or.inl ⟨by rfl, ?_⟩) ?_ ?_
          rotate_left
          · intro w'
            go_simp
            with_reducible rfl
          rotate_left
          · simp only [Act.put, List.setIfInBounds_toArray, List.set_cons_zero, List.set_cons_succ, i64_w, i32_w]
            rfl
          refine pure_ (i := 3) (N := some 45) (v := ?_) (a' := ?_) #[true, false, false, true, false, false, false, false, false, false, false, false] rfl rfl (by kernel_rfl) (fun _ _ _ h => h) (Or.inl ⟨by rfl, ?_⟩) ?_ ?_
          rotate_left
          · intro w'
            go_simp
            with_reducible rfl
          rotate_left
          · simp only [Act.put, List.setIfInBounds_toArray, List.set_cons_zero, List.set_cons_succ, i64_w, i32_w]
            rfl
          refine pure_ (i := 4) (N := some 46) (v := ?_) (a' := ?_) #[true, false, false, true, true, false, false, false, false, false, false, false] rfl rfl (by kernel_rfl) (fun _ _ _ h => h) (Or.inl ⟨by rfl, ?_⟩) ?_ ?_
          rotate_left
          · intro w'
            go_simp
            with_reducible rfl
          rotate_left
          · simp only [Act.put, List.setIfInBounds_toArray, List.set_cons_zero, List.set_cons_succ, i64_w, i32_w]
            rfl
          refine pure_ (i := 5) (N := some 47) (v := ?_) (a' := ?_) #[true, false, false, true, true, true, false, false, false, false, false, false] rfl rfl (by kernel_rfl) (fun _ _ _ h => h) (Or.inl ⟨by rfl, ?_⟩) ?_ ?_
          rotate_left
          · intro w'
            go_simp
            with_reducible rfl
          rotate_left
          · simp only [Act.put, List.setIfInBounds_toArray, List.set_cons_zero, List.set_cons_succ, i64_w, i32_w]
            rfl
          refine pure_ (i := 7) (N := some 49) (v := ?_) (a' := ?_) #[true, false, false, true, true, true, false, true, false, false, false, false] rfl rfl (by kernel_rfl) (fun _ _ _ h => h) (Or.inl ⟨by rfl, ?_⟩) ?_ ?_
          rotate_left
          · intro w'
            go_simp
            with_reducible rfl
          rotate_left
          · simp only [Act.put, List.setIfInBounds_toArray, List.set_cons_zero, List.set_cons_succ, i64_w, i32_w]
            rfl
          refine pure_ (i := 8) (N := some 50) (v := ?_) (a' := ?_) #[true, false, false, true, true, true, false, true, true, false, false, false] rfl rfl (by kernel_rfl) (fun _ _ _ h => h) (Or.inl ⟨by rfl, ?_⟩) ?_ ?_
          rotate_left
          · intro w'
            go_simp
            with_reducible rfl
          rotate_left
          · simp only [Act.put, List.setIfInBounds_toArray, List.set_cons_zero, List.set_cons_succ, i64_w, i32_w]
            rfl
          refine take_ (i := 6) (N := some 48) (v := ?_) (a' := ?_) #[true, false, false, true, true, true, true, true, true, false, false, false] rfl rfl (by kernel_rfl) (fun _ _ _ h => h) (Or.inl ⟨by rfl, ?_⟩) hHeld ?_ ?_
          rotate_left
          · rintro w' ⟨s0, s1⟩
            go_simp
            with_reducible rfl
          rotate_left
          · simp only [Act.put, List.setIfInBounds_toArray, List.set_cons_zero, List.set_cons_succ, i64_w, i32_w]
            rfl
          refine pure_ (i := 9) (N := some 51) (v := ?_) (a' := ?_) #[true, false, false, true, true, true, true, true, true, true, false, false] rfl rfl (by kernel_rfl) (fun _ _ _ h => h) (Or.inl ⟨by rfl, ?_⟩) ?_ ?_
          rotate_left
          · intro w'
            go_simp
            with_reducible rfl
          rotate_left
          · simp only [Act.put, List.setIfInBounds_toArray, List.set_cons_zero, List.set_cons_succ, i64_w, i32_w]
            rfl
          refine take_ (i := 10) (N := some 52) (v := ?_) (a' := ?_) #[true, false, false, true, true, true, true, true, true, true, true, false] rfl rfl (by kernel_rfl) (fun _ _ _ h => h) (Or.inl ⟨by rfl, ?_⟩) hHeld ?_ ?_
          rotate_left
          · rintro w' ⟨s0, s1⟩
            go_simp
            with_reducible rfl
          rotate_left
          · simp only [Act.put, List.setIfInBounds_toArray, List.set_cons_zero, List.set_cons_succ, i64_w, i32_w]
            rfl
          refine one_ (i := 1) (N := some 43) #[true, true, false, true, true, true, true, true, true, true, true, false] rfl rfl (by kernel_rfl) (by decide) (fun K hK => ?_)
          refine goes_ Try.func68 (by kernel_rfl) rfl #[.slice none 0 0, .int .u64 (n1 : Int)] (by rfl) rfl rfl (by first | (simp only [List.map_toArray, List.map_cons, List.map_nil]; done) | (simp only [List.map_toArray, List.map_cons, List.map_nil]; rfl) | rfl) ?_; with_reducible refine (ref1put_nil n1 _ HN64.out).mono ?_; rintro e w8 ⟨v, rfl, ho, hb⟩; refine ⟨_, rfl, ?_⟩
          rw [← HV.out] at ho
          have hcv := own_string (P := Try.prog) Try.underlying24 Try.underlying5 Try.underlying9 (Kd.own_of_R ho)
          rw [← HSV.out] at hcv
          clear ho
          have n2_ := Aside0.mk (below_step HW.out hb); have HW := n2_; clear n2_; have n0_ := Aside0.mk (below_step (by repeat (first | (with_reducible first | exact HB.out | apply below_alloc | apply pw_below_drewN | apply below_drew1) | exact HB.out)) hb); have n1_ := Aside0.mk (Sep.below (by repeat (first | (with_reducible first | exact HS.out | apply sep_alloc | apply sep_drewN | apply sep_drew) | exact HS.out)) hb); clear HB HS; have HB := n0_; have HS := n1_; clear n0_ n1_ hb
          refine hK.out _ _ ⟨Sep.c20 HS.out, (by rw [HSU.out]; exact Kd.C_string Try.underlying24 Try.underlying5 Try.underlying9 (Kd.C_below HU.out HW.out))⟩ (fun hHeld => ?_)
          clear hK K
          refine norm_ (a' := ?_) ?_ ?_
          rotate_left
          · show Act.put _ (some 43) _ = _
            simp only [Act.put, List.setIfInBounds_toArray, List.set_cons_zero, List.set_cons_succ, i64_w, i32_w]
            rfl
          refine one_ (i := 2) (N := some 44) #[true, true, true, true, true, true, true, true, true, true, true, false] rfl rfl (by kernel_rfl) (by decide) (fun K hK => ?_)
          refine value_ (w1 := ?_) (v := ?_) (by rfl) rfl ?_ ?_
          rotate_left 2
          · go_simp
            constructor
            · rfl
            · rfl
          clear hcv
          refine hK.out _ _ ⟨Sep.c20 HS.out, (by rw [HSU.out]; exact Kd.C_string Try.underlying24 Try.underlying5 Try.underlying9 (Kd.C_below HU.out HW.out))⟩ (fun hHeld => ?_)
          clear hK K
          refine norm_ (a' := ?_) ?_ ?_
          rotate_left
          · show Act.put _ (some 44) _ = _
            simp only [Act.put, List.setIfInBounds_toArray, List.set_cons_zero, List.set_cons_succ, i64_w, i32_w]
            rfl
          refine pure_ (i := 11) (N := some 53) (v := ?_) (a' := ?_) #[true, true, true, true, true, true, true, true, true, true, true, true] rfl rfl (by kernel_rfl) (fun _ _ _ h => h) (Or.inl ⟨by rfl, ?_⟩) ?_ ?_
          rotate_left
          · intro w'
            go_simp
            with_reducible rfl
          rotate_left
          · simp only [Act.put, List.setIfInBounds_toArray, List.set_cons_zero, List.set_cons_succ, i64_w, i32_w]
            rfl
          refine done_ (by kernel_rfl) ?_
          have hc0 := Sep.c20 HS.out
          have hf0 := Sep.free HS.out 0
          go_wp2
          go_ret
          exact .inl ⟨n1, r, A4, c4_, HN64.out, (HV.out ▸ HEQ.out), rfl, HC4.out, HCD.out, Turned.of_sep (mk := fun _ => rtR g (.slice A4 r.length c4_) bad) (F' := fun _ => True) (HS.out.s20 _) HB0.out (below_set HB.out HS.out.ge)⟩
        · have c8 := bytes_ne heq
          have HNO := Aside0.mk (HS1.out.2 (fun h => heq (hVU.2 h)))
          clear hlt hby hx hx256 hi10 hi9 hi9' hy hst1 hi1 hUl hV hU hVU hsV hsU hi05 hsz5 hr hA4 hc4 hx128 heq
          obtain ⟨hr1, hr2, hr3, hr3b, hr3c, hr4, hr5, hr6⟩ := HRR.out
          go_wp2
          clear hc0 hc1 hf0
          refine start_ (n := 12) (S := fun w' => w'.cell? ⟨g, 0, none⟩ = some (.slice (some ad) b.length c) ∧ (convert 24 9 (.slice (some ad) i1 c)).run Try.prog w' = .ok (.string sU) w') (ds := []) #[false, false, false, false, false, false, false, false, false, false, false, false] (by kernel_rfl) rfl rfl ⟨Sep.c20 (sep_drew HS.out), (by rw [HSU.out]; exact Kd.C_string Try.underlying24 Try.underlying5 Try.underlying9 (Kd.C_below HU.out (below_drew HW.out)))⟩ (fun hHeld => ?_)
          have n2_ := Aside0.mk (below_drew HW.out)
          clear HW
          have HW := n2_
          clear n2_
          have n0_ := Aside0.mk (below_drew HB.out)
          have n1_ := Aside0.mk (sep_drew HS.out)
          clear HB HS
          have HB := n0_
          have HS := n1_
          clear n0_ n1_
          generalize (World.drew wr) = wd_ at HB HS HW hHeld ⊢
          refine pure_ (i := 0) (N := some 42) (v := ?_) (a' := ?_) #[true, false, false, false, false, false, false, false, false, false, false, false] rfl rfl (by kernel_rfl) (fun _ _ _ h => h) (Or.inl ⟨by rfl, ?_⟩) ?_ ?_
          rotate_left
          · intro w'
            go_simp
            with_reducible rfl
          rotate_left
          · simp only [Act.put, List.setIfInBounds_toArray, List.set_cons_zero, List.set_cons_succ, i64_w, i32_w]
            rfl
          refine pure_ (i := 3) (N := some 45) (v := ?_) (a' := ?_) #[true, false, false, true, false, false, false, false, false, false, false, false] rfl rfl (by kernel_rfl) (fun _ _ _ h => h) (Or.inl ⟨by rfl, ?_⟩) ?_ ?_
          rotate_left
          · intro w'
            go_simp
            with_reducible rfl
          rotate_left
          · simp only [Act.put, List.setIfInBounds_toArray, List.set_cons_zero, List.set_cons_succ, i64_w, i32_w]
            rfl
          refine pure_ (i := 4) (N := some 46) (v := ?_) (a' := ?_) #[true, false, false, true, true, false, false, false, false, false, false, false] rfl rfl (by kernel_rfl) (fun _ _ _ h => h) (Or.inl ⟨by rfl, ?_⟩) ?_ ?_
          rotate_left
          · intro w'
            go_simp
            with_reducible rfl
          rotate_left
          · simp only [Act.put, List.setIfInBounds_toArray, List.set_cons_zero, List.set_cons_succ, i64_w, i32_w]
            rfl
          refine pure_ (i := 5) (N := some 47) (v := ?_) (a' := ?_) #[true, false, false, true, true, true, false, false, false, false, false, false] rfl rfl (by kernel_rfl) (fun _ _ _ h => h) (Or.inl ⟨by rfl, ?_⟩) ?_ ?_
          rotate_left
          · intro w'
            go_simp
            with_reducible rfl
          rotate_left
          · simp only [Act.put, List.setIfInBounds_toArray, List.set_cons_zero, List.set_cons_succ, i64_w, i32_w]
            rfl
          refine pure_ (i := 7) (N := some 49) (v := ?_) (a' := ?_) #[true, false, false, true, true, true, false, true, false, false, false, false] rfl rfl (by kernel_rfl) (fun _ _ _ h => h) (Or.inl ⟨by rfl, ?_⟩) ?_ ?_
          rotate_left
          · intro w'
            go_simp
            with_reducible rfl
          rotate_left
          · simp only [Act.put, List.setIfInBounds_toArray, List.set_cons_zero, List.set_cons_succ, i64_w, i32_w]
            rfl
          refine pure_ (i := 8) (N := some 50) (v := ?_) (a' := ?_) #[true, false, false, true, true, true, false, true, true, false, false, false] rfl rfl (by kernel_rfl) (fun _ _ _ h => h) (Or.inl ⟨by rfl, ?_⟩) ?_ ?_
          rotate_left
          · intro w'
            go_simp
            with_reducible rfl
          rotate_left
          · simp only [Act.put, List.setIfInBounds_toArray, List.set_cons_zero, List.set_cons_succ, i64_w, i32_w]
            rfl
          refine take_ (i := 6) (N := some 48) (v := ?_) (a' := ?_) #[true, false, false, true, true, true, true, true, true, false, false, false] rfl rfl (by kernel_rfl) (fun _ _ _ h => h) (Or.inl ⟨by rfl, ?_⟩) hHeld ?_ ?_
          rotate_left
          · rintro w' ⟨s0, s1⟩
            go_simp
            with_reducible rfl
          rotate_left
          · simp only [Act.put, List.setIfInBounds_toArray, List.set_cons_zero, List.set_cons_succ, i64_w, i32_w]
            rfl
          refine pure_ (i := 9) (N := some 51) (v := ?_) (a' := ?_) #[true, false, false, true, true, true, true, true, true, true, false, false] rfl rfl (by kernel_rfl) (fun _ _ _ h => h) (Or.inl ⟨by rfl, ?_⟩) ?_ ?_
          rotate_left
          · intro w'
            go_simp
            with_reducible rfl
          rotate_left
          · simp only [Act.put, List.setIfInBounds_toArray, List.set_cons_zero, List.set_cons_succ, i64_w, i32_w]
            rfl
          refine take_ (i := 10) (N := some 52) (v := ?_) (a' := ?_) #[true, false, false, true, true, true, true, true, true, true, true, false] rfl rfl (by kernel_rfl) (fun _ _ _ h => h) (Or.inl ⟨by rfl, ?_⟩) hHeld ?_ ?_
          rotate_left
          · rintro w' ⟨s0, s1⟩
            go_simp
            with_reducible rfl
          rotate_left
          · simp only [Act.put, List.setIfInBounds_toArray, List.set_cons_zero, List.set_cons_succ, i64_w, i32_w]
            rfl
          refine one_ (i := 1) (N := some 43) #[true, true, false, true, true, true, true, true, true, true, true, false] rfl rfl (by kernel_rfl) (by decide) (fun K hK => ?_)
          refine goes_ Try.func68 (by kernel_rfl) rfl #[.slice none 0 0, .int .u64 (n1 : Int)] (by rfl) rfl rfl (by first | (simp only [List.map_toArray, List.map_cons, List.map_nil]; done) | (simp only [List.map_toArray, List.map_cons, List.map_nil]; rfl) | rfl) ?_; with_reducible refine (ref1put_nil n1 _ HN64.out).mono ?_; rintro e w8 ⟨v, rfl, ho, hb⟩; refine ⟨_, rfl, ?_⟩
          rw [← HV.out] at ho
          have hcv := own_string (P := Try.prog) Try.underlying24 Try.underlying5 Try.underlying9 (Kd.own_of_R ho)
          rw [← HSV.out] at hcv
          clear ho
          have n2_ := Aside0.mk (below_step HW.out hb); have HW := n2_; clear n2_; have n0_ := Aside0.mk (below_step (by repeat (first | (with_reducible first | exact HB.out | apply below_alloc | apply pw_below_drewN | apply below_drew1) | exact HB.out)) hb); have n1_ := Aside0.mk (Sep.below (by repeat (first | (with_reducible first | exact HS.out | apply sep_alloc | apply sep_drewN | apply sep_drew) | exact HS.out)) hb); clear HB HS; have HB := n0_; have HS := n1_; clear n0_ n1_ hb
          refine hK.out _ _ ⟨Sep.c20 HS.out, (by rw [HSU.out]; exact Kd.C_string Try.underlying24 Try.underlying5 Try.underlying9 (Kd.C_below HU.out HW.out))⟩ (fun hHeld => ?_)
          clear hK K
          refine norm_ (a' := ?_) ?_ ?_
          rotate_left
          · show Act.put _ (some 43) _ = _
            simp only [Act.put, List.setIfInBounds_toArray, List.set_cons_zero, List.set_cons_succ, i64_w, i32_w]
            rfl
          refine one_ (i := 2) (N := some 44) #[true, true, true, true, true, true, true, true, true, true, true, false] rfl rfl (by kernel_rfl) (by decide) (fun K hK => ?_)
          refine value_ (w1 := ?_) (v := ?_) (by rfl) rfl ?_ ?_
          rotate_left 2
          · go_simp
            constructor
            · rfl
            · rfl
          clear hcv
          refine hK.out _ _ ⟨Sep.c20 HS.out, (by rw [HSU.out]; exact Kd.C_string Try.underlying24 Try.underlying5 Try.underlying9 (Kd.C_below HU.out HW.out))⟩ (fun hHeld => ?_)
          clear hK K
          refine norm_ (a' := ?_) ?_ ?_
          rotate_left
          · show Act.put _ (some 44) _ = _
            simp only [Act.put, List.setIfInBounds_toArray, List.set_cons_zero, List.set_cons_succ, i64_w, i32_w]
            rfl
          refine pure_ (i := 11) (N := some 53) (v := ?_) (a' := ?_) #[true, true, true, true, true, true, true, true, true, true, true, true] rfl rfl (by kernel_rfl) (fun _ _ _ h => h) (Or.inl ⟨by rfl, ?_⟩) ?_ ?_
          rotate_left
          · intro w'
            go_simp
            with_reducible rfl
          rotate_left
          · simp only [Act.put, List.setIfInBounds_toArray, List.set_cons_zero, List.set_cons_succ, i64_w, i32_w]
            rfl
          refine done_ (by kernel_rfl) ?_
          go_wp2_with (first
            | (go_at_call 103; ((with_reducible refine (rfail_calls g _ bad w0 _ HB.out HS.out.own).mono ?_); rintro e w8 ⟨rfl, ht⟩; obtain ⟨F_, hs_⟩ := Turned.sep ht (HS.out) rfl; have n0_ := Aside0.mk (Turned.below ht); clear HB HS ht; have HB := n0_; have HS := Aside0.mk hs_; clear n0_ hs_)))
          go_ret
          exact .inr ⟨HNO.out, rfl, Turned.of_sep (mk := fun _ => rtR g (.slice none 0 0) true) (F' := fun _ => True) HS.out HB0.out HB.out⟩
      · have c7 : decide ((x : Int) < 128) = false := decide_eq_false (by omega)
        have c7n : decide (x < 128) = false := decide_eq_false hx128
        have HS2 := Aside0.mk (HST.out.2 (by omega))
        obtain ⟨k1_, rfl⟩ : ∃ q, gk = q + 1 := ⟨gk - 1, by have := HI.out; omega⟩
        have HX := Aside0.mk hnx
        clear hlt hnx hby hx hx256 hi10 hi9 hi9' hx128 hy hi1
        obtain ⟨hr1, hr2, hr3, hr3b, hr3c, hr4, hr5, hr6⟩ := HRR.out
        go_wp2
        clear hr1 hr2 hr3 hr3b hr3c hr4 hr5 hr6
        go_roundg k1_
        case measure => omega
        case rel => exact ⟨i1, n1, k1, rfl, rfl, (by first | rfl | rw [HX.out]), ⟨by have := HI.out; have := HI1.out; omega, HN64.out, HK64.out, HS2.out⟩, HS, HB, HW⟩
    · have HNO := Aside0.mk (show ∀ (m : Nat) (r : List Int), m < 2 ^ 64 → b ≠ varint m ++ r from fun m r hm => by
        rcases HI.out.2.2.2 with ⟨h1, _, h2⟩ | ⟨_, h⟩
        · exact some_out h2 (by omega) m r
        · exact h m r hm)
      have hcs : decide ((i : Int) < (b.length : Int)) = false ∧ decide (i < b.length) = false ∨ (decide ((i : Int) < (b.length : Int)) = true ∧ decide (i < b.length) = true) ∧ decide ((i : Int) < 10) = false ∧ decide (i < 10) = false := by
        by_cases h : i < b.length
        · exact .inr ⟨⟨decide_eq_true (by omega), decide_eq_true h⟩, decide_eq_false (by omega), decide_eq_false (by omega)⟩
        · exact .inl ⟨decide_eq_false (by omega), decide_eq_false h⟩
      clear hlt hi10
      rcases hcs with ⟨d1, d2⟩ | ⟨⟨d1, d2⟩, d3, d4⟩
      all_goals (
        go_wp2_with (first
          | (go_at_call 103; ((with_reducible refine (rfail_calls g _ bad w0 _ HB.out HS.out.own).mono ?_); rintro e w8 ⟨rfl, ht⟩; obtain ⟨F_, hs_⟩ := Turned.sep ht (HS.out) rfl; have n0_ := Aside0.mk (Turned.below ht); clear HB HS ht; have HB := n0_; have HS := Aside0.mk hs_; clear n0_ hs_)))
        go_ret
        exact .inr ⟨HNO.out, rfl, Turned.of_sep (mk := fun _ => rtR g (.slice none 0 0) true) (F' := fun _ => True) HS.out HB0.out HB.out⟩)
end Go.Proofs.Ythkpnnbjcendcaa.Sc
