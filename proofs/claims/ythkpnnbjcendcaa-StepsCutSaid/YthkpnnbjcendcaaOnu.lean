/- octs' Num, walked. -/
import Derived.Test.YthkpnnbjcendcaaOt
set_option linter.unusedVariables false
set_option linter.unusedSimpArgs false
open Go.RowKit Go.Proofs.Ythkpnnbjcendcaa.X Go.Proofs.Ythkpnnbjcendcaa.Pl Go.Proofs.Ythkpnnbjcendcaa.Sp Go.Proofs.Ythkpnnbjcendcaa.Pure Go.Proofs.YthkpnnbjcendcaaW.PrintWords Go.Proofs.YthkpnnbjcendcaaW.PrintLast Go.Proofs.YthkpnnbjcendcaaW.PrintMore
namespace Go.Proofs.Ythkpnnbjcendcaa.Sc
/-- What Num says of bytes at A: the number at their head and what is behind it, or none. -/
def NumR (mk : Value → Bool → Res) (g : Nat) (A : Option Addr) (b : List Int) (bad : Bool) (w0 w : World) (e : Ending) (w' : World) : Prop :=
  (∃ (m : Nat) (r : List Int) (A' : Option Addr) (c' : Nat), m < 2 ^ 64 ∧ b = varint m ++ r ∧ e = .returned (.int .u64 (m : Int)) ∧ r.length ≤ c' ∧ (∀ w2, Kd.C (Kd.int .u8) w2 A b.length b → Kd.C (Kd.int .u8) w2 A' r.length r) ∧ Turned w0 w w' (fun k => k = g) (fun _ => mk (.slice A' r.length c') bad)) ∨
  ((∀ (m : Nat) (r : List Int), m < 2 ^ 64 → b ≠ varint m ++ r) ∧ e = .returned (.int .u64 0) ∧ Turned w0 w w' (fun k => k = g) (fun _ => mk (.slice none 0 0) true))
theorem pow7 (i : Nat) : (128 : Nat) ^ i = 2 ^ (7 * i) := by rw [Nat.pow_mul]
set_option maxHeartbeats 8000000 in
set_option maxRecDepth 100000 in
theorem num_calls (g : Nat) (A : Option Addr) (c : Nat) (b : List Int) (bad : Bool) (w0 w : World) (hB : Below w0.heap.size w0 w) (hO : Own w0.heap.size w (otR g (.slice A b.length c) bad)) (hr : Kd.C (Kd.int .u8) w A b.length b) (hc : b.length ≤ c) (hby : Byt b) (hl : b.length < 1000000) :
    Calls Try.prog 74 #[.pointer (some ⟨g, 0, none⟩)] w fun e w' => NumR (otR g) g A b bad w0 w e w' := by
  have HB0 := Aside0.mk hB
  have HB := Aside0.mk hB
  have HS := Aside0.mk (Sep.start hO)
  have HR := Aside0.mk hr
  have HC := Aside0.mk hc
  have HBY := Aside0.mk hby
  have HL := Aside0.mk hl
  have hc0 := Sep.c20 HS.out
  clear hB hO hr hc hby hl
  go_enter Try.func74, Try.ntmps74
  go_wp2
  have HW := Aside0.mk (Below.refl w.heap.size w)
  go_loopg [3, 4, 5, 13] 9 (fun kq v3 v4 v5 v13 w' => ∃ (i acc : Nat), v3 = .int .u64 (acc : Int) ∧ v13 = .int .i64 (i : Int) ∧ Aside0 (kq + i = 9 ∧ Some7 b i acc) ∧ Aside0 (Sep w0.heap.size w' [otR g (.slice A b.length c) bad, frameR w0.heap.size w (otR g (.slice A b.length c) bad).foot]) ∧ Aside0 (Below w0.heap.size w0 w') ∧ Aside0 (Below w.heap.size w w'))
  case atStart => exact ⟨0, 0, rfl, rfl, ⟨by omega, some_start b⟩, HS, HB, HW⟩
  case round =>
    clear HS HB HW hc0
    obtain ⟨i, acc, rfl, rfl, HI, HS, HB, HW⟩ := hrel
    have hc0 := Sep.c20 HS.out
    have hc1 := Sep.c21 HS.out
    have hf0 := Sep.free HS.out 0
    have hi9 : i ≤ 9 := by have := HI.out; omega
    by_cases hlt : i < b.length
    · have c1b : decide ((i : Int) < (b.length : Int)) = true := decide_eq_true (by omega)
      have c1n : decide (i < b.length) = true := decide_eq_true hlt
      have hnx : wrap64 ((i : Int) + 1) = ((i + 1 : Nat) : Int) := by rw [w64 (by omega) (by omega)]; simp
      have hby := HBY.out (b.getD i 0) (by rw [getD_lt _ _ _ hlt]; exact List.getElem_mem _)
      obtain ⟨x, hx⟩ : ∃ x : Nat, b.getD i 0 = (x : Int) := ⟨(b.getD i 0).toNat, by omega⟩
      have hx256 : x < 256 := by omega
      obtain ⟨ad, e1, hx0⟩ := Kd.at_int HR.out (i : Int) (by omega) (by omega)
      cases e1
      rw [Int.toNat_natCast, rd_get, hx] at hx0
      replace hx0 := (HW.out.cell (World.block_lt_of_cell? w _ hx0)).trans hx0
      have c4 := eq_true hlt
      have c5 := eq_true (show (i : Int) < (b.length : Int) by omega)
      have c6 := eq_true (show 0 ≤ (i : Int) by omega)
      have h10 : ((i : Int) == 10) = false := by rw [beq_eq_false_iff_ne]; omega
      have h10b : decide ((i : Int) = 10) = false := decide_eq_false (by omega)
      by_cases ht : i = 9 ∧ 1 < x
      · obtain ⟨hi9e, hx1⟩ := ht
        have h9a : ((i : Int) == 9) = true := by rw [hi9e]; rfl
        have h9 : decide ((1 : Int) < (x : Int)) = true := decide_eq_true (by omega)
        have h9b : decide (1 < x) = true := decide_eq_true hx1
        have HNO := Aside0.mk (fun (m : Nat) (r : List Int) (hm : m < 2 ^ 64) => some_ten (acc := acc) (c := x) (by have := HI.out.2; rwa [hi9e] at this) (by omega) (by rw [← hi9e]; exact hx) hx1 hx256 m r hm)
        clear hlt hnx hby hx hx256 hi9 hx1 hi9e
        go_wp2_with (first
          | ((with_reducible refine gate_dst (N := 61) rfl ?_); (try (refine gate_guard (by rfl) ?_; dsimp only)); refine goesL_ (some 61) rfl rfl Try.func100 (by kernel_rfl) rfl #[.pointer (some ⟨g, 0, none⟩)] rfl (by (try simp only [List.map_toArray, List.map_cons, List.map_nil]); first | done | rfl) ?_; (with_reducible refine (ofail_calls g _ bad w0 _ HB.out HS.out.own).mono ?_); rintro e w8 ⟨rfl, ht⟩; refine ⟨_, rfl, ?_⟩; obtain ⟨F_, hs_⟩ := Turned.sep ht (HS.out) rfl; have n0_ := Aside0.mk (Turned.below ht); clear HB HS ht; have HB := n0_; have HS := Aside0.mk hs_; clear n0_ hs_))
        go_ret
        exact .inr ⟨HNO.out, rfl, Turned.of_sep (mk := fun _ => otR g (.slice none 0 0) true) (F' := fun _ => True) HS.out HB0.out HB.out⟩
      · have h9 : ((i : Int) == 9) = true → decide ((1 : Int) < (x : Int)) = false := fun h => decide_eq_false (by have := beq_iff_eq.1 h; omega)
        have hlow := low7 hx256
        have hand := high1 hx256
        obtain ⟨s, hs⟩ : ∃ s, s = 7 * i := ⟨_, rfl⟩
        have hsw : wrap64 (7 * (i : Int)) = (s : Int) := by rw [w64 (by omega) (by omega)]; omega
        obtain ⟨y, hy⟩ : ∃ y, y = x % 128 := ⟨_, rfl⟩
        rw [← hy] at hlow
        have hyw : IntKind.u64.wrap (y : Int) = (y : Int) := w_u64 (by omega) (by omega)
        have hai : acc < 2 ^ (7 * i) := by have := HI.out.2.1; rwa [pow7] at this
        have hbd : i < 9 ∨ i = 9 ∧ x ≤ 1 := by omega
        have hfit : acc + y * 2 ^ (7 * i) < 2 ^ 64 := by
          rcases hbd with h | ⟨rfl, h⟩
          · have h1 : y * 2 ^ (7 * i) ≤ 127 * 2 ^ (7 * i) := Nat.mul_le_mul_right _ (by omega)
            have h2 : (2 : Nat) ^ (7 * i) ≤ 2 ^ 56 := Nat.pow_le_pow_right (by decide) (by omega)
            omega
          · have h1 : y * 2 ^ (7 * 9) ≤ 1 * 2 ^ (7 * 9) := Nat.mul_le_mul_right _ (by omega)
            omega
        have hor := or_add (c := y) hai (by omega) hi9
        obtain ⟨acc', hacc⟩ : ∃ a, a = acc + y * 2 ^ (7 * i) := ⟨_, rfl⟩
        rw [← hacc] at hor hfit
        rw [← hs] at hor
        have hor2 : Go.bits .or .u64 (acc : Int) (IntKind.u64.wrap ((y : Int) * 2 ^ min s 64)) = (acc' : Int) := by
          unfold shl at hor
          rw [Int.toNat_natCast] at hor
          exact hor
        by_cases hx128 : x < 128
        · rw [if_pos hx128] at hand
          obtain ⟨i1, hi1⟩ : ∃ j, j = i + 1 := ⟨_, rfl⟩
          rw [← hi1] at hnx
          have HCN := Aside0.mk (show ∀ L, Long acc' L → (i1 = max 1 ((L + 6) / 7) ↔ i = 0 ∨ 0 < x) from fun L hL => by
            have hb2 : acc' < 2 ^ (7 * (i + 1)) := by
              have h1 : y * 2 ^ (7 * i) ≤ 127 * 2 ^ (7 * i) := Nat.mul_le_mul_right _ (by omega)
              rw [Nat.mul_add, Nat.pow_add, hacc]
              omega
            rw [hi1, long_groups hL hb2, hacc]
            have hyx : y = x := by omega
            constructor
            · rintro (h | h)
              · exact .inl h
              · refine .inr (Nat.pos_of_ne_zero ?_)
                intro h0
                rw [hyx, h0, Nat.zero_mul] at h
                omega
            · rintro (h | h)
              · exact .inl h
              · refine .inr ?_
                have : 1 * 2 ^ (7 * i) ≤ y * 2 ^ (7 * i) := Nat.mul_le_mul_right _ (by omega)
                omega)
          have HFT := Aside0.mk hfit
          have h9c : (((i : Int) == 9) = true ∧ decide ((1 : Int) < (x : Int)) = false) ∨ ((i : Int) == 9) = false := by
            rcases hbd with h | ⟨h, h1⟩
            · exact .inr (by rw [beq_eq_false_iff_ne]; omega)
            · exact .inl ⟨by rw [h]; rfl, decide_eq_false (by omega)⟩
          by_cases hcan : i = 0 ∨ 0 < x
          · have HNE := Aside0.mk (show ∀ L : Nat, Long acc' L → ((i1 : Int) != if (1 : Int) < ((L : Int) + 7 - 1) / 7 then ((L : Int) + 7 - 1) / 7 else 1) = false from fun L hL => by
              have := (HCN.out L hL).2 hcan
              rw [bne_eq_false_iff_eq]
              split <;> omega)
            have HFC := Aside0.mk (hcan)
            have HXM := Aside0.mk hx
            have HLT := Aside0.mk hlt
            have HI1 := Aside0.mk hi1
            have HX128 := Aside0.mk hx128
            have HYX := Aside0.mk (show y = x by omega)
            have HEQ := Aside0.mk ((some_end HI.out.2 hlt hx hx128 acc' (b.drop i1)).2 ⟨by rw [hacc, ← pow7, show y = x by omega], hcan, by rw [hi1]⟩)
            obtain ⟨r, hr⟩ : ∃ r, r = b.drop i1 := ⟨_, rfl⟩
            have HRL := Aside0.mk (show b.length - i1 = r.length by rw [hr, List.length_drop])
            obtain ⟨i05, hi05, _, hsz5, _⟩ := info_parts info5
            have hcut := cut_from (P := Try.prog) 24 5 .i64 Try.underlying24 hi05 1 hsz5 (some ad) b.length c (i1 : Int) (by omega) (by omega)
            obtain ⟨A4, hA4⟩ : ∃ A, A = (if c = i1 then (some ad : Option Addr) else (some ad).map (fun x => x.add (i1 * 1))) := ⟨_, rfl⟩
            have HCD := Aside0.mk (show ∀ w2, Kd.C (Kd.int .u8) w2 (some ad) b.length b → Kd.C (Kd.int .u8) w2 A4 r.length r from fun w2 h2 => by rw [hA4, hr]; exact Kd.C_drop (m := i1) h2 (by omega) HC.out)
            obtain ⟨c4, hc4⟩ : ∃ x, x = c - i1 := ⟨_, rfl⟩
            have HC4 := Aside0.mk (show r.length ≤ c4 by have := HC.out; rw [hc4, ← HRL.out]; omega)
            rw [Int.toNat_natCast, ← hA4, HRL.out, ← hc4] at hcut
            have k1 := eq_true (show i1 ≤ b.length by omega)
            have k1i := eq_true (show (i1 : Int) ≤ (b.length : Int) by omega)
            have k2i := eq_true (show 0 ≤ (i1 : Int) by omega)
            rw [← hr] at HEQ
            clear hlt hby hx hx256 hi9 ht hfit hai hbd hx128 hacc hs hy hi1 hcan h9 hi05 hsz5 hA4 hc4 hr
            rcases h9c with ⟨h9a, h9b⟩ | h9a
            all_goals (
              go_wp2_with (first
                | ((with_reducible refine gate_dst (N := 42) rfl ?_); (try (refine gate_guard (by rfl) ?_; dsimp only)); refine goesL_ (some 42) rfl rfl Try.func99 (by kernel_rfl) rfl #[.int .u64 (acc' : Int)] rfl (by (try simp only [List.map_toArray, List.map_cons, List.map_nil]); first | done | rfl) ?_; (with_reducible refine (len64_calls acc' _ HFT.out).mono ?_); rintro e w8 ⟨L, rfl, hL1, hL2, hb⟩; refine ⟨_, rfl, ?_⟩; have n0_ := Aside0.mk (below_step (by repeat (first | (with_reducible first | exact HB.out | apply below_alloc | apply pw_below_drewN | apply below_drew1) | exact HB.out)) hb); have n1_ := Aside0.mk (Sep.below (by repeat (first | (with_reducible first | exact HS.out | apply sep_alloc | apply sep_drewN | apply sep_drew) | exact HS.out)) hb); clear HB HS; have HB := n0_; have HS := n1_; clear n0_ n1_ hb; have hne := HNE.out L hL1; clear hL1 hc0 hc1 hf0; have hc0 := Sep.c20 HS.out; have hc1 := Sep.c21 HS.out; have hf0 := Sep.free HS.out 0))
              all_goals go_ret
              all_goals exact .inl ⟨acc', r, A4, c4, HFT.out, HEQ.out, rfl, HC4.out, HCD.out, Turned.of_sep (mk := fun _ => otR g (.slice A4 r.length c4) bad) (F' := fun _ => True) (HS.out.s20 _) HB0.out (below_set HB.out HS.out.ge)⟩)
          · have HNE := Aside0.mk (show ∀ L : Nat, Long acc' L → ((i1 : Int) != if (1 : Int) < ((L : Int) + 7 - 1) / 7 then ((L : Int) + 7 - 1) / 7 else 1) = true from fun L hL => by
              have := mt (HCN.out L hL).1 hcan
              rw [bne_iff_ne]
              split <;> omega)
            have HNO := Aside0.mk (fun (m : Nat) (r : List Int) (hm : m < 2 ^ 64) (e : b = varint m ++ r) => hcan ((some_end HI.out.2 hlt hx hx128 m r).1 e).2.1)
            clear hlt hby hx hx256 hi9 ht hfit hai hbd hx128 hacc hs hy hi1 hcan h9
            rcases h9c with ⟨h9a, h9b⟩ | h9a
            all_goals (
              go_wp2_with (first
                | ((with_reducible refine gate_dst (N := 42) rfl ?_); (try (refine gate_guard (by rfl) ?_; dsimp only)); refine goesL_ (some 42) rfl rfl Try.func99 (by kernel_rfl) rfl #[.int .u64 (acc' : Int)] rfl (by (try simp only [List.map_toArray, List.map_cons, List.map_nil]); first | done | rfl) ?_; (with_reducible refine (len64_calls acc' _ HFT.out).mono ?_); rintro e w8 ⟨L, rfl, hL1, hL2, hb⟩; refine ⟨_, rfl, ?_⟩; have n0_ := Aside0.mk (below_step (by repeat (first | (with_reducible first | exact HB.out | apply below_alloc | apply pw_below_drewN | apply below_drew1) | exact HB.out)) hb); have n1_ := Aside0.mk (Sep.below (by repeat (first | (with_reducible first | exact HS.out | apply sep_alloc | apply sep_drewN | apply sep_drew) | exact HS.out)) hb); clear HB HS; have HB := n0_; have HS := n1_; clear n0_ n1_ hb; have hne := HNE.out L hL1; clear hL1 hc0 hc1 hf0; have hc0 := Sep.c20 HS.out; have hc1 := Sep.c21 HS.out; have hf0 := Sep.free HS.out 0)
                | ((with_reducible refine gate_dst (N := 61) rfl ?_); (try (refine gate_guard (by rfl) ?_; dsimp only)); refine goesL_ (some 61) rfl rfl Try.func100 (by kernel_rfl) rfl #[.pointer (some ⟨g, 0, none⟩)] rfl (by (try simp only [List.map_toArray, List.map_cons, List.map_nil]); first | done | rfl) ?_; (with_reducible refine (ofail_calls g _ bad w0 _ HB.out HS.out.own).mono ?_); rintro e w9 ⟨rfl, ht⟩; refine ⟨_, rfl, ?_⟩; obtain ⟨F_, hs_⟩ := Turned.sep ht (HS.out) rfl; have n0_ := Aside0.mk (Turned.below ht); clear HB HS ht; have HB := n0_; have HS := Aside0.mk hs_; clear n0_ hs_))
              all_goals go_ret
              all_goals exact .inr ⟨HNO.out, rfl, Turned.of_sep (mk := fun _ => otR g (.slice none 0 0) true) (F' := fun _ => True) HS.out HB0.out HB.out⟩)
        · rw [if_neg hx128] at hand
          have hi8 : i < 9 := by omega
          have h9b : ((i : Int) == 9) = false := by rw [beq_eq_false_iff_ne]; omega
          obtain ⟨k1, rfl⟩ : ∃ q, gk = q + 1 := ⟨gk - 1, by have := HI.out; omega⟩
          have HX := Aside0.mk hnx
          have HN := Aside0.mk (show Some7 b (i + 1) acc' by
            rw [hacc, hy, ← pow7]
            exact some_more HI.out.2 hlt hx (by omega) hx256)
          clear hlt hnx hby hx hx256 hi9 ht hfit hai hbd hx128 hacc hs hy h9 hi8
          go_wp2
          go_roundg k1
          case measure => omega
          case rel => exact ⟨i + 1, acc', rfl, (by first | rfl | rw [HX.out]), ⟨by have := HI.out; omega, HN.out⟩, HS, HB, HW⟩
    · have c1b : decide ((i : Int) < (b.length : Int)) = false := decide_eq_false (by omega)
      have c1n : decide (i < b.length) = false := decide_eq_false hlt
      have HNO := Aside0.mk (fun (m : Nat) (r : List Int) (hm : m < 2 ^ 64) => some_out HI.out.2 (by omega) m r)
      clear hlt hi9
      go_wp2_with (first
        | ((with_reducible refine gate_dst (N := 61) rfl ?_); (try (refine gate_guard (by rfl) ?_; dsimp only)); refine goesL_ (some 61) rfl rfl Try.func100 (by kernel_rfl) rfl #[.pointer (some ⟨g, 0, none⟩)] rfl (by (try simp only [List.map_toArray, List.map_cons, List.map_nil]); first | done | rfl) ?_; (with_reducible refine (ofail_calls g _ bad w0 _ HB.out HS.out.own).mono ?_); rintro e w8 ⟨rfl, ht⟩; refine ⟨_, rfl, ?_⟩; obtain ⟨F_, hs_⟩ := Turned.sep ht (HS.out) rfl; have n0_ := Aside0.mk (Turned.below ht); clear HB HS ht; have HB := n0_; have HS := Aside0.mk hs_; clear n0_ hs_))
      go_ret
      exact .inr ⟨HNO.out, rfl, Turned.of_sep (mk := fun _ => otR g (.slice none 0 0) true) (F' := fun _ => True) HS.out HB0.out HB.out⟩
end Go.Proofs.Ythkpnnbjcendcaa.Sc
