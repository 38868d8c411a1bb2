/- What the law leans on, part 8: Stm. -/
import Derived.Test.YthkpnnbjcendcaaQf7
section
/- steps' taker.mark, walked (printed by stm.py). -/
set_option linter.unusedVariables false
set_option linter.unusedSimpArgs false
open Go.RowKit Go.Proofs.Ythkpnnbjcendcaa.X Go.Proofs.Ythkpnnbjcendcaa.Pl Go.Proofs.Ythkpnnbjcendcaa.Sp Go.Proofs.Ythkpnnbjcendcaa.Pure Go.Proofs.YthkpnnbjcendcaaW.PrintWords Go.Proofs.YthkpnnbjcendcaaW.PrintLast Go.Proofs.YthkpnnbjcendcaaW.PrintMore
namespace Go.Proofs.Ythkpnnbjcendcaa.Sc
/-- What a taker's mark says: the number of the mark that stands there, or that none does. -/
def MarkR (mk : Nat → Bool → Res) (g : Nat) (dec : Option (Int × Nat)) (p : Nat) (bad : Bool) (w0 w : World) (e : Ending) (w' : World) : Prop :=
  ∃ (v : Int) (q : Nat) (bad' : Bool), e = .returned (.int .i64 v) ∧ Turned w0 w w' (fun k => k = g) (fun _ => mk q bad') ∧ q ≤ p + 68 ∧ (bad = true → bad' = true) ∧ (∀ n p', dec = some (n, p') → bad = false → bad' = false ∧ v = n ∧ q = p') ∧ (dec = none → bad' = true)
theorem tktake_n (g : Nat) (A : Option Addr) (c : Nat) (b : List Int) (p wd : Nat) (bad : Bool) (r1 r2 : Int) (bad' : Bool) (wi : Int) (q : Nat) (w0 w : World) (hwi : wi = (wd : Int)) (hq : q = p + wd) (hB : Below w0.heap.size w0 w) (hO : Own w0.heap.size w (tkR g (.slice A b.length c) p bad)) (hr : Kd.C (Kd.int .u8) w0 A b.length b) (hc : b.length ≤ c) (hby : Byt b) (hl : b.length < 1000000)
    (hw : wd ≤ 64) (hp : p < 1000000000) (ha : atR b (p : Int) (wd : Int) = (r1, r2)) (hb' : bad' = (bad || (r2 != 0))) :
    Calls Try.prog 101 #[.pointer (some ⟨g, 0, none⟩), .int .i64 wi] w fun e w' => e = .returned (.int .u64 r1) ∧ Turned w0 w w' (fun k => k = g) (fun _ => tkR g (.slice A b.length c) q bad') := by
  subst hwi hq
  exact tktake_calls g A c b p wd bad r1 r2 bad' w0 w hB hO hr hc hby hl hw hp ha hb'
theorem open_calls (u : Nat) (w : World) (h : u < 2 ^ 64) : Calls Try.prog 102 #[.int .u64 (u : Int)] w fun e w' => e = .returned (.int .i64 (openN u)) ∧ Below w.heap.size w w' := by
  refine (octs_Open.calls _ _ w (open_f h)).mono ?_
  rintro e w' ⟨rfl, hd⟩
  exact ⟨rfl, hd.below⟩
theorem open_n (ui : Int) (u : Nat) (w : World) (hu : ui = (u : Int)) (h : u < 2 ^ 64) : Calls Try.prog 102 #[.int .u64 ui] w fun e w' => e = .returned (.int .i64 (openN u)) ∧ Below w.heap.size w w' := hu ▸ open_calls u w h
theorem dec_X {b : List Int} {p k : Nat} (hk : onesAt b p = k) (h : p + headW k + wid k ≤ 8 * b.length) : decM b p = some (k, val b (p + headW k) (wid k), p + headW k + wid k) := by
  unfold decM
  rw [hk, if_pos h]
theorem dec_Y {b : List Int} {p k : Nat} (hk : onesAt b p = k) (h : ¬ p + headW k + wid k ≤ 8 * b.length) : decS b p = none := by
  unfold decS decM
  rw [hk, if_neg h]
theorem decS_X {b : List Int} {p k u q : Nat} (h : decM b p = some (k, u, q)) (hc : ¬(0 < k ∧ u < 2 ^ wid (k - 1))) : decS b p = some (openN u, q) := by
  unfold decS
  rw [h]
  exact if_neg hc
theorem decS_N {b : List Int} {p k u q : Nat} (h : decM b p = some (k, u, q)) (hc : 0 < k ∧ u < 2 ^ wid (k - 1)) : decS b p = none := by
  unfold decS
  rw [h]
  exact if_pos hc
set_option maxHeartbeats 16000000 in
set_option maxRecDepth 100000 in
theorem tkmark_calls (g : Nat) (A : Option Addr) (c : Nat) (b : List Int) (p : Nat) (bad : Bool) (w0 w : World) (hB : Below w0.heap.size w0 w) (hO : Own w0.heap.size w (tkR g (.slice A b.length c) p bad)) (hr : Kd.C (Kd.int .u8) w0 A b.length b) (hc : b.length ≤ c) (hby : Byt b) (hl : b.length < 1000000) (hp : p < 900000000) :
    Calls Try.prog 77 #[.pointer (some ⟨g, 0, none⟩)] w fun e w' => MarkR (tkR g (.slice A b.length c)) g (decS b p) p bad w0 w e w' := by
  have HB0 := Aside0.mk hB
  have HB := Aside0.mk hB
  have HS := Aside0.mk (Sep.start hO)
  have HR := Aside0.mk hr
  have HC := Aside0.mk hc
  have HBY := Aside0.mk hby
  have HL := Aside0.mk hl
  have HP := Aside0.mk hp
  clear hB hO hr hc hby hl hp
  go_enter Try.func77, Try.ntmps77
  go_wp2
  refine Go_.wp_scope_ghost_k 0 (fun kq a_ w_ => ∃ (u1 u2 u3 u4 u5 u6 u7 u8 u9 u10 u11 u12 u13 u14 u15 u16 u17 u18 u19 u20 u21 u22 u23 u24 u25 u26 u27 u28 u29 u30 u31 u32 u33 u34 u35 u36 : Value), (∃ (j : Nat), u3 = .int .i64 (j : Int) ∧ Aside0 (kq + j = 4 ∧ j ≤ onesAt b p) ∧ Aside0 (Sep w0.heap.size w_ [tkR g (.slice A b.length c) (p + j) bad, frameR w0.heap.size w (tkR g (.slice A b.length c) p bad).foot]) ∧ Aside0 (Below w0.heap.size w0 w_)) ∧ a_ = { tmps := #[.pointer (some ⟨g, 0, none⟩), u1, u2, u3, u4, u5, u6, u7, u8, u9, u10, u11, u12, u13, u14, u15, u16, u17, u18, u19, u20, u21, u22, u23, u24, u25, u26, u27, u28, u29, u30, u31, u32, u33, u34, u35, u36], defers := [] }) rfl ?pass ?first
  case pass =>
    clear HS HB
    intro gk a_ wr hinv
    obtain ⟨u1, u2, u3, u4, u5, u6, u7, u8, u9, u10, u11, u12, u13, u14, u15, u16, u17, u18, u19, u20, u21, u22, u23, u24, u25, u26, u27, u28, u29, u30, u31, u32, u33, u34, u35, u36, ⟨j, rfl, HI, HS, HB⟩, rfl⟩ := hinv
    intro J K hJ hK
    have hle := HI.out.2
    by_cases hj : j < onesAt b p
    · have hn := (ones_next hle).1 hj
      have HA := Aside0.mk (show atR b ((p + j : Nat) : Int) ((1 : Nat) : Int) = (1, 0) by rw [atR_ok (by omega) (by omega), val_one, hn.2.2]; rfl)
      have c1b : decide ((j : Int) < 4) = true := decide_eq_true (by omega)
      have c1n : decide (j < 4) = true := decide_eq_true hn.1
      have hnx : wrap64 ((j : Int) + 1) = ((j + 1 : Nat) : Int) := by rw [w64 (by omega) (by omega)]; simp
      obtain ⟨k1, rfl⟩ : ∃ q, gk = q + 1 := ⟨gk - 1, by have := HI.out; omega⟩
      have HX := Aside0.mk hnx
      have HJ := Aside0.mk hj
      have HN4 := Aside0.mk hn.1
      clear hnx hn hj hle
      go_wp2_with (first
        | ((with_reducible refine gate_dst (N := 10) rfl ?_); (try (refine gate_guard (by rfl) ?_; dsimp only)); refine goesL_ (some 10) rfl rfl Try.func101 (by kernel_rfl) rfl #[.pointer (some ⟨g, 0, none⟩), .int .i64 1] rfl (by (try simp only [List.map_toArray, List.map_cons, List.map_nil]); first | done | rfl) ?_; (with_reducible refine (tktake_n g A c b (p + j) 1 bad 1 0 bad 1 (p + (j + 1)) w0 _ rfl (by omega) HB.out HS.out.own HR.out HC.out HBY.out HL.out (by omega) (by have := HP.out; have := HN4.out; omega) HA.out (by simp)).mono ?_); rintro e w8 ⟨rfl, ht⟩; refine ⟨_, rfl, ?_⟩; obtain ⟨F_, hs_⟩ := Turned.sep ht (HS.out) rfl; have n0_ := Aside0.mk (Turned.below ht); clear HB HS ht; have HB := n0_; have HS := Aside0.mk hs_; clear n0_ hs_))
      repeat (go_quiet (fail); try go_wp2)
      go_step3
      refine ⟨rfl, hK _ _ (Handed.intro k1 ?measure (hJ _ _ _ ?_))⟩
      rotate_left
      (repeat apply Exists.intro)
      refine ⟨?rel, rfl⟩
      case measure => omega
      case rel => exact ⟨j + 1, (by first | rfl | rw [HX.out]), ⟨by have := HI.out; omega, HJ.out⟩, HS, HB⟩
    · have hk : onesAt b p = j := by omega
      have hn := mt (ones_next hle).2 hj
      have hj4 := ones_le b p
      rw [hk] at hj4
      have HK := Aside0.mk hk
      have i0 := wid0
      have i1 := wid1
      have i2 := wid2
      have i3 := wid3
      have i4 := wid4
      rcases (by omega : j = 0 ∨ j = 1 ∨ j = 2 ∨ j = 3 ∨ j = 4) with rfl | rfl | rfl | rfl | rfl
      -- 0
      · obtain ⟨r1, r2, hA1, hne⟩ : ∃ r1 r2, atR b ((p + 0 : Nat) : Int) ((1 : Nat) : Int) = (r1, r2) ∧ (r1 == 1) = false ∧ (p + 1 ≤ 8 * b.length → r2 = 0) := by
          by_cases hin : p + 0 + 1 ≤ 8 * b.length
          · refine ⟨_, _, atR_ok (by omega) hin, ?_, fun _ => rfl⟩
            have := bt_lt b (p + 0)
            rw [val_one, beq_eq_false_iff_ne]
            have h1 : ¬ bt b (p + 0) = 1 := fun h => hn ⟨by omega, hin, h⟩
            omega
          · exact ⟨_, _, atR_bad (by omega) (by omega), rfl, fun h => absurd h (by omega)⟩
        obtain ⟨hne, hr2⟩ := hne
        have HA1 := Aside0.mk hA1
        obtain ⟨bad1, hbad1⟩ : ∃ x, x = (bad || (r2 != 0)) := ⟨_, rfl⟩
        have HB1 := Aside0.mk hbad1
        by_cases hq : p + 1 + 0 ≤ 8 * b.length
        · have HA2 := Aside0.mk (show atR b ((p + 1 : Nat) : Int) ((0 : Nat) : Int) = ((val b (p + 1) 0 : Int), 0) from atR_ok (by omega) hq)
          have HD := Aside0.mk (dec_X (b := b) (p := p) (k := 0) HK.out hq)
          have hdd := HD.out
          rw [show wid 0 = 0 from rfl, show headW 0 = 1 from rfl] at hdd
          have hu0 := val_lt b (p + 1) 0
          obtain ⟨u, hu⟩ : ∃ u, u = val b (p + 1) 0 := ⟨_, rfl⟩
          rw [← hu] at HA2 hu0 hdd
          have hb1 : bad1 = bad := by rw [hbad1, hr2 (by omega)]; simp
          have HBB := Aside0.mk hb1
          have HU := Aside0.mk (show u < 2 ^ 64 from Nat.lt_of_lt_of_le hu0 (by decide))
          have HD2 := Aside0.mk hdd
          clear hq hu hu0 hb1 hbad1 hdd HD hk hn hj hj4 hle hA1 hr2
          go_wp2_with (first
            | (go_at_call 97; ((with_reducible refine (steps_widths.calls 0 7 14 32 64 _ rfl).mono ?_); rintro e w2 ⟨rfl, hb⟩; have n0_ := Aside0.mk (below_step (by repeat (first | (with_reducible first | exact HB.out | apply below_alloc | apply pw_below_drewN | apply below_drew1) | exact HB.out)) hb); have n1_ := Aside0.mk (Sep.below (by repeat (first | (with_reducible first | exact HS.out | apply sep_alloc | apply sep_drewN | apply sep_drew) | exact HS.out)) hb); clear HB HS; have HB := n0_; have HS := n1_; clear n0_ n1_ hb; (try clear hf2 hc2); have hf2 := Sep.free HS.out 2; have hc2 := Sep.c32 HS.out))
            | ((with_reducible refine gate_dst (N := 10) rfl ?_); (try (refine gate_guard (by rfl) ?_; dsimp only)); refine goesL_ (some 10) rfl rfl Try.func101 (by kernel_rfl) rfl #[.pointer (some ⟨g, 0, none⟩), .int .i64 1] rfl (by (try simp only [List.map_toArray, List.map_cons, List.map_nil]); first | done | rfl) ?_; (with_reducible refine (tktake_n g A c b (p + 0) 1 bad r1 r2 bad1 1 (p + 1) w0 _ rfl (by omega) HB.out HS.out.own HR.out HC.out HBY.out HL.out (by omega) (by have := HP.out; omega) HA1.out HB1.out).mono ?_); rintro e w8 ⟨rfl, ht⟩; refine ⟨_, rfl, ?_⟩; obtain ⟨F_, hs_⟩ := Turned.sep ht (HS.out) rfl; have n0_ := Aside0.mk (Turned.below ht); clear HB HS ht; have HB := n0_; have HS := Aside0.mk hs_; clear n0_ hs_)
            | ((with_reducible refine gate_dst (N := 20) rfl ?_); (try (refine gate_guard (by rfl) ?_; dsimp only)); refine goesL_ (some 20) rfl rfl Try.func101 (by kernel_rfl) rfl #[.pointer (some ⟨g, 0, none⟩), .int .i64 0] rfl (by (try simp only [List.map_toArray, List.map_cons, List.map_nil]); first | done | rfl) ?_; (with_reducible refine (tktake_n g A c b (p + 1) 0 bad1 (u : Int) 0 bad1 0 (p + 1 + 0) w0 _ rfl (by omega) HB.out HS.out.own HR.out HC.out HBY.out HL.out (by omega) (by have := HP.out; omega) HA2.out (by simp)).mono ?_); rintro e w9 ⟨rfl, ht⟩; refine ⟨_, rfl, ?_⟩; obtain ⟨F_, hs_⟩ := Turned.sep ht (HS.out) rfl; have n0_ := Aside0.mk (Turned.below ht); clear HB HS ht; have HB := n0_; have HS := Aside0.mk hs_; clear n0_ hs_; (try clear hf2 hc2); have hf2 := Sep.free HS.out 2; have hc2 := Sep.c32 HS.out)
            | (go_at_call 102; ((with_reducible refine (open_n (u : Int) u _ (by simp) HU.out).mono ?_); rintro e w3 ⟨rfl, hb⟩; have n0_ := Aside0.mk (below_step (by repeat (first | (with_reducible first | exact HB.out | apply below_alloc | apply pw_below_drewN | apply below_drew1) | exact HB.out)) hb); have n1_ := Aside0.mk (Sep.below (by repeat (first | (with_reducible first | exact HS.out | apply sep_alloc | apply sep_drewN | apply sep_drew) | exact HS.out)) hb); clear HB HS; have HB := n0_; have HS := n1_; clear n0_ n1_ hb)))
          (try simp only [Exit.jump]); go_ret
          exact ⟨openN u, p + 1 + 0, bad1, rfl, Turned.of_sep (mk := fun _ => tkR g (.slice A b.length c) (p + 1 + 0) bad1) (F' := fun _ => True) HS.out HB0.out HB.out, by omega, (fun h => by rw [HBB.out, h]), (fun n p' h h2 => by rw [decS_X HD2.out (by omega)] at h; injection h with h; injection h with h3 h4; exact ⟨by rw [HBB.out, h2], h3, h4⟩), (fun h => by rw [decS_X HD2.out (by omega)] at h; cases h)⟩
        · have HA2 := Aside0.mk (show atR b ((p + 1 : Nat) : Int) ((0 : Nat) : Int) = (0, 2) from atR_bad (by omega) (by omega))
          have HN := Aside0.mk (show decS b p = none from dec_Y (k := 0) HK.out hq)
          clear hq hbad1 hk hn hj hj4 hle hA1 hr2
          go_wp2_with (first
            | (go_at_call 97; ((with_reducible refine (steps_widths.calls 0 7 14 32 64 _ rfl).mono ?_); rintro e w2 ⟨rfl, hb⟩; have n0_ := Aside0.mk (below_step (by repeat (first | (with_reducible first | exact HB.out | apply below_alloc | apply pw_below_drewN | apply below_drew1) | exact HB.out)) hb); have n1_ := Aside0.mk (Sep.below (by repeat (first | (with_reducible first | exact HS.out | apply sep_alloc | apply sep_drewN | apply sep_drew) | exact HS.out)) hb); clear HB HS; have HB := n0_; have HS := n1_; clear n0_ n1_ hb; (try clear hf2 hc2); have hf2 := Sep.free HS.out 2; have hc2 := Sep.c32 HS.out))
            | ((with_reducible refine gate_dst (N := 10) rfl ?_); (try (refine gate_guard (by rfl) ?_; dsimp only)); refine goesL_ (some 10) rfl rfl Try.func101 (by kernel_rfl) rfl #[.pointer (some ⟨g, 0, none⟩), .int .i64 1] rfl (by (try simp only [List.map_toArray, List.map_cons, List.map_nil]); first | done | rfl) ?_; (with_reducible refine (tktake_n g A c b (p + 0) 1 bad r1 r2 bad1 1 (p + 1) w0 _ rfl (by omega) HB.out HS.out.own HR.out HC.out HBY.out HL.out (by omega) (by have := HP.out; omega) HA1.out HB1.out).mono ?_); rintro e w8 ⟨rfl, ht⟩; refine ⟨_, rfl, ?_⟩; obtain ⟨F_, hs_⟩ := Turned.sep ht (HS.out) rfl; have n0_ := Aside0.mk (Turned.below ht); clear HB HS ht; have HB := n0_; have HS := Aside0.mk hs_; clear n0_ hs_)
            | ((with_reducible refine gate_dst (N := 20) rfl ?_); (try (refine gate_guard (by rfl) ?_; dsimp only)); refine goesL_ (some 20) rfl rfl Try.func101 (by kernel_rfl) rfl #[.pointer (some ⟨g, 0, none⟩), .int .i64 0] rfl (by (try simp only [List.map_toArray, List.map_cons, List.map_nil]); first | done | rfl) ?_; (with_reducible refine (tktake_n g A c b (p + 1) 0 bad1 0 2 true 0 (p + 1 + 0) w0 _ rfl (by omega) HB.out HS.out.own HR.out HC.out HBY.out HL.out (by omega) (by have := HP.out; omega) HA2.out (by simp)).mono ?_); rintro e w9 ⟨rfl, ht⟩; refine ⟨_, rfl, ?_⟩; obtain ⟨F_, hs_⟩ := Turned.sep ht (HS.out) rfl; have n0_ := Aside0.mk (Turned.below ht); clear HB HS ht; have HB := n0_; have HS := Aside0.mk hs_; clear n0_ hs_; (try clear hf2 hc2); have hf2 := Sep.free HS.out 2; have hc2 := Sep.c32 HS.out)
            | (go_at_call 102; ((with_reducible refine (open_n 0 0 _ (by simp) (by decide)).mono ?_); rintro e w3 ⟨rfl, hb⟩; have n0_ := Aside0.mk (below_step (by repeat (first | (with_reducible first | exact HB.out | apply below_alloc | apply pw_below_drewN | apply below_drew1) | exact HB.out)) hb); have n1_ := Aside0.mk (Sep.below (by repeat (first | (with_reducible first | exact HS.out | apply sep_alloc | apply sep_drewN | apply sep_drew) | exact HS.out)) hb); clear HB HS; have HB := n0_; have HS := n1_; clear n0_ n1_ hb)))
          (try simp only [Exit.jump]); go_ret
          exact ⟨openN 0, p + 1 + 0, true, rfl, Turned.of_sep (mk := fun _ => tkR g (.slice A b.length c) (p + 1 + 0) true) (F' := fun _ => True) HS.out HB0.out HB.out, by omega, (fun _ => rfl), (fun n p' h h2 => by rw [HN.out] at h; cases h), (fun _ => rfl)⟩
      -- 1
      · obtain ⟨r1, r2, hA1, hne⟩ : ∃ r1 r2, atR b ((p + 1 : Nat) : Int) ((1 : Nat) : Int) = (r1, r2) ∧ (r1 == 1) = false ∧ (p + 2 ≤ 8 * b.length → r2 = 0) := by
          by_cases hin : p + 1 + 1 ≤ 8 * b.length
          · refine ⟨_, _, atR_ok (by omega) hin, ?_, fun _ => rfl⟩
            have := bt_lt b (p + 1)
            rw [val_one, beq_eq_false_iff_ne]
            have h1 : ¬ bt b (p + 1) = 1 := fun h => hn ⟨by omega, hin, h⟩
            omega
          · exact ⟨_, _, atR_bad (by omega) (by omega), rfl, fun h => absurd h (by omega)⟩
        obtain ⟨hne, hr2⟩ := hne
        have HA1 := Aside0.mk hA1
        obtain ⟨bad1, hbad1⟩ : ∃ x, x = (bad || (r2 != 0)) := ⟨_, rfl⟩
        have HB1 := Aside0.mk hbad1
        by_cases hq : p + 2 + 7 ≤ 8 * b.length
        · have HA2 := Aside0.mk (show atR b ((p + 2 : Nat) : Int) ((7 : Nat) : Int) = ((val b (p + 2) 7 : Int), 0) from atR_ok (by omega) hq)
          have HD := Aside0.mk (dec_X (b := b) (p := p) (k := 1) HK.out hq)
          have hdd := HD.out
          rw [show wid 1 = 7 from rfl, show headW 1 = 2 from rfl] at hdd
          have hu0 := val_lt b (p + 2) 7
          obtain ⟨u, hu⟩ : ∃ u, u = val b (p + 2) 7 := ⟨_, rfl⟩
          rw [← hu] at HA2 hu0 hdd
          have hb1 : bad1 = bad := by rw [hbad1, hr2 (by omega)]; simp
          have HBB := Aside0.mk hb1
          have HU := Aside0.mk (show u < 2 ^ 64 from Nat.lt_of_lt_of_le hu0 (by decide))
          have HD2 := Aside0.mk hdd
          by_cases hcn : u < 1
          · have hz : ((u : Int) / 1 == 0) = true := by rw [beq_iff_eq]; omega
            have hz2 : (u : Int) / 1 = 0 := by omega
            have HN := Aside0.mk (show decS b p = none from decS_N HD2.out ⟨by omega, hcn⟩)
            clear hq hu hu0 hb1 hbad1 hdd HD hk hn hj hj4 hle hcn hA1 hr2
            go_wp2_with (first
              | (go_at_call 97; ((with_reducible refine (steps_widths.calls 0 7 14 32 64 _ rfl).mono ?_); rintro e w2 ⟨rfl, hb⟩; have n0_ := Aside0.mk (below_step (by repeat (first | (with_reducible first | exact HB.out | apply below_alloc | apply pw_below_drewN | apply below_drew1) | exact HB.out)) hb); have n1_ := Aside0.mk (Sep.below (by repeat (first | (with_reducible first | exact HS.out | apply sep_alloc | apply sep_drewN | apply sep_drew) | exact HS.out)) hb); clear HB HS; have HB := n0_; have HS := n1_; clear n0_ n1_ hb; (try clear hf2 hc2); have hf2 := Sep.free HS.out 2; have hc2 := Sep.c32 HS.out))
              | ((with_reducible refine gate_dst (N := 10) rfl ?_); (try (refine gate_guard (by rfl) ?_; dsimp only)); refine goesL_ (some 10) rfl rfl Try.func101 (by kernel_rfl) rfl #[.pointer (some ⟨g, 0, none⟩), .int .i64 1] rfl (by (try simp only [List.map_toArray, List.map_cons, List.map_nil]); first | done | rfl) ?_; (with_reducible refine (tktake_n g A c b (p + 1) 1 bad r1 r2 bad1 1 (p + 2) w0 _ rfl (by omega) HB.out HS.out.own HR.out HC.out HBY.out HL.out (by omega) (by have := HP.out; omega) HA1.out HB1.out).mono ?_); rintro e w8 ⟨rfl, ht⟩; refine ⟨_, rfl, ?_⟩; obtain ⟨F_, hs_⟩ := Turned.sep ht (HS.out) rfl; have n0_ := Aside0.mk (Turned.below ht); clear HB HS ht; have HB := n0_; have HS := Aside0.mk hs_; clear n0_ hs_)
              | ((with_reducible refine gate_dst (N := 20) rfl ?_); (try (refine gate_guard (by rfl) ?_; dsimp only)); refine goesL_ (some 20) rfl rfl Try.func101 (by kernel_rfl) rfl #[.pointer (some ⟨g, 0, none⟩), .int .i64 7] rfl (by (try simp only [List.map_toArray, List.map_cons, List.map_nil]); first | done | rfl) ?_; (with_reducible refine (tktake_n g A c b (p + 2) 7 bad1 (u : Int) 0 bad1 7 (p + 2 + 7) w0 _ rfl (by omega) HB.out HS.out.own HR.out HC.out HBY.out HL.out (by omega) (by have := HP.out; omega) HA2.out (by simp)).mono ?_); rintro e w9 ⟨rfl, ht⟩; refine ⟨_, rfl, ?_⟩; obtain ⟨F_, hs_⟩ := Turned.sep ht (HS.out) rfl; have n0_ := Aside0.mk (Turned.below ht); clear HB HS ht; have HB := n0_; have HS := Aside0.mk hs_; clear n0_ hs_; (try clear hf2 hc2); have hf2 := Sep.free HS.out 2; have hc2 := Sep.c32 HS.out)
              | (go_at_call 102; (have n0_ := Aside0.mk (below_set (j := 2) (v := .bool true) HB.out HS.out.ge); have n1_ := Aside0.mk (HS.out.s32 (.bool true)); clear HB HS; have HB := n0_; have HS := n1_; clear n0_ n1_; (with_reducible refine (open_n (u : Int) u _ (by simp) HU.out).mono ?_); rintro e w3 ⟨rfl, hb⟩; have n0_ := Aside0.mk (below_step (by repeat (first | (with_reducible first | exact HB.out | apply below_alloc | apply pw_below_drewN | apply below_drew1) | exact HB.out)) hb); have n1_ := Aside0.mk (Sep.below (by repeat (first | (with_reducible first | exact HS.out | apply sep_alloc | apply sep_drewN | apply sep_drew) | exact HS.out)) hb); clear HB HS; have HB := n0_; have HS := n1_; clear n0_ n1_ hb)))
            (try simp only [Exit.jump]); go_ret
            exact ⟨openN u, p + 2 + 7, true, rfl, Turned.of_sep (mk := fun _ => tkR g (.slice A b.length c) (p + 2 + 7) true) (F' := fun _ => True) HS.out HB0.out HB.out, by omega, (fun _ => rfl), (fun n p' h h2 => by rw [HN.out] at h; cases h), (fun _ => rfl)⟩
          · have hz : ((u : Int) / 1 == 0) = false := by rw [beq_eq_false_iff_ne]; omega
            have hz2 : ((u : Int) / 1 = 0) = False := eq_false (by omega)
            have HN := Aside0.mk (show decS b p = some (openN u, p + 2 + 7) from decS_X HD2.out (by rintro ⟨_, h⟩; exact hcn h))
            clear hq hu hu0 hb1 hbad1 hdd HD hk hn hj hj4 hle hcn hA1 hr2
            go_wp2_with (first
              | (go_at_call 97; ((with_reducible refine (steps_widths.calls 0 7 14 32 64 _ rfl).mono ?_); rintro e w2 ⟨rfl, hb⟩; have n0_ := Aside0.mk (below_step (by repeat (first | (with_reducible first | exact HB.out | apply below_alloc | apply pw_below_drewN | apply below_drew1) | exact HB.out)) hb); have n1_ := Aside0.mk (Sep.below (by repeat (first | (with_reducible first | exact HS.out | apply sep_alloc | apply sep_drewN | apply sep_drew) | exact HS.out)) hb); clear HB HS; have HB := n0_; have HS := n1_; clear n0_ n1_ hb; (try clear hf2 hc2); have hf2 := Sep.free HS.out 2; have hc2 := Sep.c32 HS.out))
              | ((with_reducible refine gate_dst (N := 10) rfl ?_); (try (refine gate_guard (by rfl) ?_; dsimp only)); refine goesL_ (some 10) rfl rfl Try.func101 (by kernel_rfl) rfl #[.pointer (some ⟨g, 0, none⟩), .int .i64 1] rfl (by (try simp only [List.map_toArray, List.map_cons, List.map_nil]); first | done | rfl) ?_; (with_reducible refine (tktake_n g A c b (p + 1) 1 bad r1 r2 bad1 1 (p + 2) w0 _ rfl (by omega) HB.out HS.out.own HR.out HC.out HBY.out HL.out (by omega) (by have := HP.out; omega) HA1.out HB1.out).mono ?_); rintro e w8 ⟨rfl, ht⟩; refine ⟨_, rfl, ?_⟩; obtain ⟨F_, hs_⟩ := Turned.sep ht (HS.out) rfl; have n0_ := Aside0.mk (Turned.below ht); clear HB HS ht; have HB := n0_; have HS := Aside0.mk hs_; clear n0_ hs_)
              | ((with_reducible refine gate_dst (N := 20) rfl ?_); (try (refine gate_guard (by rfl) ?_; dsimp only)); refine goesL_ (some 20) rfl rfl Try.func101 (by kernel_rfl) rfl #[.pointer (some ⟨g, 0, none⟩), .int .i64 7] rfl (by (try simp only [List.map_toArray, List.map_cons, List.map_nil]); first | done | rfl) ?_; (with_reducible refine (tktake_n g A c b (p + 2) 7 bad1 (u : Int) 0 bad1 7 (p + 2 + 7) w0 _ rfl (by omega) HB.out HS.out.own HR.out HC.out HBY.out HL.out (by omega) (by have := HP.out; omega) HA2.out (by simp)).mono ?_); rintro e w9 ⟨rfl, ht⟩; refine ⟨_, rfl, ?_⟩; obtain ⟨F_, hs_⟩ := Turned.sep ht (HS.out) rfl; have n0_ := Aside0.mk (Turned.below ht); clear HB HS ht; have HB := n0_; have HS := Aside0.mk hs_; clear n0_ hs_; (try clear hf2 hc2); have hf2 := Sep.free HS.out 2; have hc2 := Sep.c32 HS.out)
              | (go_at_call 102; ((with_reducible refine (open_n (u : Int) u _ (by simp) HU.out).mono ?_); rintro e w3 ⟨rfl, hb⟩; have n0_ := Aside0.mk (below_step (by repeat (first | (with_reducible first | exact HB.out | apply below_alloc | apply pw_below_drewN | apply below_drew1) | exact HB.out)) hb); have n1_ := Aside0.mk (Sep.below (by repeat (first | (with_reducible first | exact HS.out | apply sep_alloc | apply sep_drewN | apply sep_drew) | exact HS.out)) hb); clear HB HS; have HB := n0_; have HS := n1_; clear n0_ n1_ hb)))
            (try simp only [Exit.jump]); go_ret
            exact ⟨openN u, p + 2 + 7, bad1, rfl, Turned.of_sep (mk := fun _ => tkR g (.slice A b.length c) (p + 2 + 7) bad1) (F' := fun _ => True) HS.out HB0.out HB.out, by omega, (fun h => by rw [HBB.out, h]), (fun n p' h h2 => by rw [HN.out] at h; injection h with h; injection h with h3 h4; exact ⟨by rw [HBB.out, h2], h3, h4⟩), (fun h => by rw [HN.out] at h; cases h)⟩
        · have HA2 := Aside0.mk (show atR b ((p + 2 : Nat) : Int) ((7 : Nat) : Int) = (0, 2) from atR_bad (by omega) (by omega))
          have HN := Aside0.mk (show decS b p = none from dec_Y (k := 1) HK.out hq)
          clear hq hbad1 hk hn hj hj4 hle hA1 hr2
          go_wp2_with (first
            | (go_at_call 97; ((with_reducible refine (steps_widths.calls 0 7 14 32 64 _ rfl).mono ?_); rintro e w2 ⟨rfl, hb⟩; have n0_ := Aside0.mk (below_step (by repeat (first | (with_reducible first | exact HB.out | apply below_alloc | apply pw_below_drewN | apply below_drew1) | exact HB.out)) hb); have n1_ := Aside0.mk (Sep.below (by repeat (first | (with_reducible first | exact HS.out | apply sep_alloc | apply sep_drewN | apply sep_drew) | exact HS.out)) hb); clear HB HS; have HB := n0_; have HS := n1_; clear n0_ n1_ hb; (try clear hf2 hc2); have hf2 := Sep.free HS.out 2; have hc2 := Sep.c32 HS.out))
            | ((with_reducible refine gate_dst (N := 10) rfl ?_); (try (refine gate_guard (by rfl) ?_; dsimp only)); refine goesL_ (some 10) rfl rfl Try.func101 (by kernel_rfl) rfl #[.pointer (some ⟨g, 0, none⟩), .int .i64 1] rfl (by (try simp only [List.map_toArray, List.map_cons, List.map_nil]); first | done | rfl) ?_; (with_reducible refine (tktake_n g A c b (p + 1) 1 bad r1 r2 bad1 1 (p + 2) w0 _ rfl (by omega) HB.out HS.out.own HR.out HC.out HBY.out HL.out (by omega) (by have := HP.out; omega) HA1.out HB1.out).mono ?_); rintro e w8 ⟨rfl, ht⟩; refine ⟨_, rfl, ?_⟩; obtain ⟨F_, hs_⟩ := Turned.sep ht (HS.out) rfl; have n0_ := Aside0.mk (Turned.below ht); clear HB HS ht; have HB := n0_; have HS := Aside0.mk hs_; clear n0_ hs_)
            | ((with_reducible refine gate_dst (N := 20) rfl ?_); (try (refine gate_guard (by rfl) ?_; dsimp only)); refine goesL_ (some 20) rfl rfl Try.func101 (by kernel_rfl) rfl #[.pointer (some ⟨g, 0, none⟩), .int .i64 7] rfl (by (try simp only [List.map_toArray, List.map_cons, List.map_nil]); first | done | rfl) ?_; (with_reducible refine (tktake_n g A c b (p + 2) 7 bad1 0 2 true 7 (p + 2 + 7) w0 _ rfl (by omega) HB.out HS.out.own HR.out HC.out HBY.out HL.out (by omega) (by have := HP.out; omega) HA2.out (by simp)).mono ?_); rintro e w9 ⟨rfl, ht⟩; refine ⟨_, rfl, ?_⟩; obtain ⟨F_, hs_⟩ := Turned.sep ht (HS.out) rfl; have n0_ := Aside0.mk (Turned.below ht); clear HB HS ht; have HB := n0_; have HS := Aside0.mk hs_; clear n0_ hs_; (try clear hf2 hc2); have hf2 := Sep.free HS.out 2; have hc2 := Sep.c32 HS.out)
            | (go_at_call 102; (have n0_ := Aside0.mk (below_set (j := 2) (v := .bool true) HB.out HS.out.ge); have n1_ := Aside0.mk (HS.out.s32 (.bool true)); clear HB HS; have HB := n0_; have HS := n1_; clear n0_ n1_; (with_reducible refine (open_n 0 0 _ (by simp) (by decide)).mono ?_); rintro e w3 ⟨rfl, hb⟩; have n0_ := Aside0.mk (below_step (by repeat (first | (with_reducible first | exact HB.out | apply below_alloc | apply pw_below_drewN | apply below_drew1) | exact HB.out)) hb); have n1_ := Aside0.mk (Sep.below (by repeat (first | (with_reducible first | exact HS.out | apply sep_alloc | apply sep_drewN | apply sep_drew) | exact HS.out)) hb); clear HB HS; have HB := n0_; have HS := n1_; clear n0_ n1_ hb)))
          (try simp only [Exit.jump]); go_ret
          exact ⟨openN 0, p + 2 + 7, true, rfl, Turned.of_sep (mk := fun _ => tkR g (.slice A b.length c) (p + 2 + 7) true) (F' := fun _ => True) HS.out HB0.out HB.out, by omega, (fun _ => rfl), (fun n p' h h2 => by rw [HN.out] at h; cases h), (fun _ => rfl)⟩
      -- 2
      · obtain ⟨r1, r2, hA1, hne⟩ : ∃ r1 r2, atR b ((p + 2 : Nat) : Int) ((1 : Nat) : Int) = (r1, r2) ∧ (r1 == 1) = false ∧ (p + 3 ≤ 8 * b.length → r2 = 0) := by
          by_cases hin : p + 2 + 1 ≤ 8 * b.length
          · refine ⟨_, _, atR_ok (by omega) hin, ?_, fun _ => rfl⟩
            have := bt_lt b (p + 2)
            rw [val_one, beq_eq_false_iff_ne]
            have h1 : ¬ bt b (p + 2) = 1 := fun h => hn ⟨by omega, hin, h⟩
            omega
          · exact ⟨_, _, atR_bad (by omega) (by omega), rfl, fun h => absurd h (by omega)⟩
        obtain ⟨hne, hr2⟩ := hne
        have HA1 := Aside0.mk hA1
        obtain ⟨bad1, hbad1⟩ : ∃ x, x = (bad || (r2 != 0)) := ⟨_, rfl⟩
        have HB1 := Aside0.mk hbad1
        by_cases hq : p + 3 + 14 ≤ 8 * b.length
        · have HA2 := Aside0.mk (show atR b ((p + 3 : Nat) : Int) ((14 : Nat) : Int) = ((val b (p + 3) 14 : Int), 0) from atR_ok (by omega) hq)
          have HD := Aside0.mk (dec_X (b := b) (p := p) (k := 2) HK.out hq)
          have hdd := HD.out
          rw [show wid 2 = 14 from rfl, show headW 2 = 3 from rfl] at hdd
          have hu0 := val_lt b (p + 3) 14
          obtain ⟨u, hu⟩ : ∃ u, u = val b (p + 3) 14 := ⟨_, rfl⟩
          rw [← hu] at HA2 hu0 hdd
          have hb1 : bad1 = bad := by rw [hbad1, hr2 (by omega)]; simp
          have HBB := Aside0.mk hb1
          have HU := Aside0.mk (show u < 2 ^ 64 from Nat.lt_of_lt_of_le hu0 (by decide))
          have HD2 := Aside0.mk hdd
          by_cases hcn : u < 128
          · have hz : ((u : Int) / 128 == 0) = true := by rw [beq_iff_eq]; omega
            have hz2 : (u : Int) / 128 = 0 := by omega
            have HN := Aside0.mk (show decS b p = none from decS_N HD2.out ⟨by omega, hcn⟩)
            clear hq hu hu0 hb1 hbad1 hdd HD hk hn hj hj4 hle hcn hA1 hr2
            go_wp2_with (first
              | (go_at_call 97; ((with_reducible refine (steps_widths.calls 0 7 14 32 64 _ rfl).mono ?_); rintro e w2 ⟨rfl, hb⟩; have n0_ := Aside0.mk (below_step (by repeat (first | (with_reducible first | exact HB.out | apply below_alloc | apply pw_below_drewN | apply below_drew1) | exact HB.out)) hb); have n1_ := Aside0.mk (Sep.below (by repeat (first | (with_reducible first | exact HS.out | apply sep_alloc | apply sep_drewN | apply sep_drew) | exact HS.out)) hb); clear HB HS; have HB := n0_; have HS := n1_; clear n0_ n1_ hb; (try clear hf2 hc2); have hf2 := Sep.free HS.out 2; have hc2 := Sep.c32 HS.out))
              | ((with_reducible refine gate_dst (N := 10) rfl ?_); (try (refine gate_guard (by rfl) ?_; dsimp only)); refine goesL_ (some 10) rfl rfl Try.func101 (by kernel_rfl) rfl #[.pointer (some ⟨g, 0, none⟩), .int .i64 1] rfl (by (try simp only [List.map_toArray, List.map_cons, List.map_nil]); first | done | rfl) ?_; (with_reducible refine (tktake_n g A c b (p + 2) 1 bad r1 r2 bad1 1 (p + 3) w0 _ rfl (by omega) HB.out HS.out.own HR.out HC.out HBY.out HL.out (by omega) (by have := HP.out; omega) HA1.out HB1.out).mono ?_); rintro e w8 ⟨rfl, ht⟩; refine ⟨_, rfl, ?_⟩; obtain ⟨F_, hs_⟩ := Turned.sep ht (HS.out) rfl; have n0_ := Aside0.mk (Turned.below ht); clear HB HS ht; have HB := n0_; have HS := Aside0.mk hs_; clear n0_ hs_)
              | ((with_reducible refine gate_dst (N := 20) rfl ?_); (try (refine gate_guard (by rfl) ?_; dsimp only)); refine goesL_ (some 20) rfl rfl Try.func101 (by kernel_rfl) rfl #[.pointer (some ⟨g, 0, none⟩), .int .i64 14] rfl (by (try simp only [List.map_toArray, List.map_cons, List.map_nil]); first | done | rfl) ?_; (with_reducible refine (tktake_n g A c b (p + 3) 14 bad1 (u : Int) 0 bad1 14 (p + 3 + 14) w0 _ rfl (by omega) HB.out HS.out.own HR.out HC.out HBY.out HL.out (by omega) (by have := HP.out; omega) HA2.out (by simp)).mono ?_); rintro e w9 ⟨rfl, ht⟩; refine ⟨_, rfl, ?_⟩; obtain ⟨F_, hs_⟩ := Turned.sep ht (HS.out) rfl; have n0_ := Aside0.mk (Turned.below ht); clear HB HS ht; have HB := n0_; have HS := Aside0.mk hs_; clear n0_ hs_; (try clear hf2 hc2); have hf2 := Sep.free HS.out 2; have hc2 := Sep.c32 HS.out)
              | (go_at_call 102; (have n0_ := Aside0.mk (below_set (j := 2) (v := .bool true) HB.out HS.out.ge); have n1_ := Aside0.mk (HS.out.s32 (.bool true)); clear HB HS; have HB := n0_; have HS := n1_; clear n0_ n1_; (with_reducible refine (open_n (u : Int) u _ (by simp) HU.out).mono ?_); rintro e w3 ⟨rfl, hb⟩; have n0_ := Aside0.mk (below_step (by repeat (first | (with_reducible first | exact HB.out | apply below_alloc | apply pw_below_drewN | apply below_drew1) | exact HB.out)) hb); have n1_ := Aside0.mk (Sep.below (by repeat (first | (with_reducible first | exact HS.out | apply sep_alloc | apply sep_drewN | apply sep_drew) | exact HS.out)) hb); clear HB HS; have HB := n0_; have HS := n1_; clear n0_ n1_ hb)))
            (try simp only [Exit.jump]); go_ret
            exact ⟨openN u, p + 3 + 14, true, rfl, Turned.of_sep (mk := fun _ => tkR g (.slice A b.length c) (p + 3 + 14) true) (F' := fun _ => True) HS.out HB0.out HB.out, by omega, (fun _ => rfl), (fun n p' h h2 => by rw [HN.out] at h; cases h), (fun _ => rfl)⟩
          · have hz : ((u : Int) / 128 == 0) = false := by rw [beq_eq_false_iff_ne]; omega
            have hz2 : ((u : Int) / 128 = 0) = False := eq_false (by omega)
            have HN := Aside0.mk (show decS b p = some (openN u, p + 3 + 14) from decS_X HD2.out (by rintro ⟨_, h⟩; exact hcn h))
            clear hq hu hu0 hb1 hbad1 hdd HD hk hn hj hj4 hle hcn hA1 hr2
            go_wp2_with (first
              | (go_at_call 97; ((with_reducible refine (steps_widths.calls 0 7 14 32 64 _ rfl).mono ?_); rintro e w2 ⟨rfl, hb⟩; have n0_ := Aside0.mk (below_step (by repeat (first | (with_reducible first | exact HB.out | apply below_alloc | apply pw_below_drewN | apply below_drew1) | exact HB.out)) hb); have n1_ := Aside0.mk (Sep.below (by repeat (first | (with_reducible first | exact HS.out | apply sep_alloc | apply sep_drewN | apply sep_drew) | exact HS.out)) hb); clear HB HS; have HB := n0_; have HS := n1_; clear n0_ n1_ hb; (try clear hf2 hc2); have hf2 := Sep.free HS.out 2; have hc2 := Sep.c32 HS.out))
              | ((with_reducible refine gate_dst (N := 10) rfl ?_); (try (refine gate_guard (by rfl) ?_; dsimp only)); refine goesL_ (some 10) rfl rfl Try.func101 (by kernel_rfl) rfl #[.pointer (some ⟨g, 0, none⟩), .int .i64 1] rfl (by (try simp only [List.map_toArray, List.map_cons, List.map_nil]); first | done | rfl) ?_; (with_reducible refine (tktake_n g A c b (p + 2) 1 bad r1 r2 bad1 1 (p + 3) w0 _ rfl (by omega) HB.out HS.out.own HR.out HC.out HBY.out HL.out (by omega) (by have := HP.out; omega) HA1.out HB1.out).mono ?_); rintro e w8 ⟨rfl, ht⟩; refine ⟨_, rfl, ?_⟩; obtain ⟨F_, hs_⟩ := Turned.sep ht (HS.out) rfl; have n0_ := Aside0.mk (Turned.below ht); clear HB HS ht; have HB := n0_; have HS := Aside0.mk hs_; clear n0_ hs_)
              | ((with_reducible refine gate_dst (N := 20) rfl ?_); (try (refine gate_guard (by rfl) ?_; dsimp only)); refine goesL_ (some 20) rfl rfl Try.func101 (by kernel_rfl) rfl #[.pointer (some ⟨g, 0, none⟩), .int .i64 14] rfl (by (try simp only [List.map_toArray, List.map_cons, List.map_nil]); first | done | rfl) ?_; (with_reducible refine (tktake_n g A c b (p + 3) 14 bad1 (u : Int) 0 bad1 14 (p + 3 + 14) w0 _ rfl (by omega) HB.out HS.out.own HR.out HC.out HBY.out HL.out (by omega) (by have := HP.out; omega) HA2.out (by simp)).mono ?_); rintro e w9 ⟨rfl, ht⟩; refine ⟨_, rfl, ?_⟩; obtain ⟨F_, hs_⟩ := Turned.sep ht (HS.out) rfl; have n0_ := Aside0.mk (Turned.below ht); clear HB HS ht; have HB := n0_; have HS := Aside0.mk hs_; clear n0_ hs_; (try clear hf2 hc2); have hf2 := Sep.free HS.out 2; have hc2 := Sep.c32 HS.out)
              | (go_at_call 102; ((with_reducible refine (open_n (u : Int) u _ (by simp) HU.out).mono ?_); rintro e w3 ⟨rfl, hb⟩; have n0_ := Aside0.mk (below_step (by repeat (first | (with_reducible first | exact HB.out | apply below_alloc | apply pw_below_drewN | apply below_drew1) | exact HB.out)) hb); have n1_ := Aside0.mk (Sep.below (by repeat (first | (with_reducible first | exact HS.out | apply sep_alloc | apply sep_drewN | apply sep_drew) | exact HS.out)) hb); clear HB HS; have HB := n0_; have HS := n1_; clear n0_ n1_ hb)))
            (try simp only [Exit.jump]); go_ret
            exact ⟨openN u, p + 3 + 14, bad1, rfl, Turned.of_sep (mk := fun _ => tkR g (.slice A b.length c) (p + 3 + 14) bad1) (F' := fun _ => True) HS.out HB0.out HB.out, by omega, (fun h => by rw [HBB.out, h]), (fun n p' h h2 => by rw [HN.out] at h; injection h with h; injection h with h3 h4; exact ⟨by rw [HBB.out, h2], h3, h4⟩), (fun h => by rw [HN.out] at h; cases h)⟩
        · have HA2 := Aside0.mk (show atR b ((p + 3 : Nat) : Int) ((14 : Nat) : Int) = (0, 2) from atR_bad (by omega) (by omega))
          have HN := Aside0.mk (show decS b p = none from dec_Y (k := 2) HK.out hq)
          clear hq hbad1 hk hn hj hj4 hle hA1 hr2
          go_wp2_with (first
            | (go_at_call 97; ((with_reducible refine (steps_widths.calls 0 7 14 32 64 _ rfl).mono ?_); rintro e w2 ⟨rfl, hb⟩; have n0_ := Aside0.mk (below_step (by repeat (first | (with_reducible first | exact HB.out | apply below_alloc | apply pw_below_drewN | apply below_drew1) | exact HB.out)) hb); have n1_ := Aside0.mk (Sep.below (by repeat (first | (with_reducible first | exact HS.out | apply sep_alloc | apply sep_drewN | apply sep_drew) | exact HS.out)) hb); clear HB HS; have HB := n0_; have HS := n1_; clear n0_ n1_ hb; (try clear hf2 hc2); have hf2 := Sep.free HS.out 2; have hc2 := Sep.c32 HS.out))
            | ((with_reducible refine gate_dst (N := 10) rfl ?_); (try (refine gate_guard (by rfl) ?_; dsimp only)); refine goesL_ (some 10) rfl rfl Try.func101 (by kernel_rfl) rfl #[.pointer (some ⟨g, 0, none⟩), .int .i64 1] rfl (by (try simp only [List.map_toArray, List.map_cons, List.map_nil]); first | done | rfl) ?_; (with_reducible refine (tktake_n g A c b (p + 2) 1 bad r1 r2 bad1 1 (p + 3) w0 _ rfl (by omega) HB.out HS.out.own HR.out HC.out HBY.out HL.out (by omega) (by have := HP.out; omega) HA1.out HB1.out).mono ?_); rintro e w8 ⟨rfl, ht⟩; refine ⟨_, rfl, ?_⟩; obtain ⟨F_, hs_⟩ := Turned.sep ht (HS.out) rfl; have n0_ := Aside0.mk (Turned.below ht); clear HB HS ht; have HB := n0_; have HS := Aside0.mk hs_; clear n0_ hs_)
            | ((with_reducible refine gate_dst (N := 20) rfl ?_); (try (refine gate_guard (by rfl) ?_; dsimp only)); refine goesL_ (some 20) rfl rfl Try.func101 (by kernel_rfl) rfl #[.pointer (some ⟨g, 0, none⟩), .int .i64 14] rfl (by (try simp only [List.map_toArray, List.map_cons, List.map_nil]); first | done | rfl) ?_; (with_reducible refine (tktake_n g A c b (p + 3) 14 bad1 0 2 true 14 (p + 3 + 14) w0 _ rfl (by omega) HB.out HS.out.own HR.out HC.out HBY.out HL.out (by omega) (by have := HP.out; omega) HA2.out (by simp)).mono ?_); rintro e w9 ⟨rfl, ht⟩; refine ⟨_, rfl, ?_⟩; obtain ⟨F_, hs_⟩ := Turned.sep ht (HS.out) rfl; have n0_ := Aside0.mk (Turned.below ht); clear HB HS ht; have HB := n0_; have HS := Aside0.mk hs_; clear n0_ hs_; (try clear hf2 hc2); have hf2 := Sep.free HS.out 2; have hc2 := Sep.c32 HS.out)
            | (go_at_call 102; (have n0_ := Aside0.mk (below_set (j := 2) (v := .bool true) HB.out HS.out.ge); have n1_ := Aside0.mk (HS.out.s32 (.bool true)); clear HB HS; have HB := n0_; have HS := n1_; clear n0_ n1_; (with_reducible refine (open_n 0 0 _ (by simp) (by decide)).mono ?_); rintro e w3 ⟨rfl, hb⟩; have n0_ := Aside0.mk (below_step (by repeat (first | (with_reducible first | exact HB.out | apply below_alloc | apply pw_below_drewN | apply below_drew1) | exact HB.out)) hb); have n1_ := Aside0.mk (Sep.below (by repeat (first | (with_reducible first | exact HS.out | apply sep_alloc | apply sep_drewN | apply sep_drew) | exact HS.out)) hb); clear HB HS; have HB := n0_; have HS := n1_; clear n0_ n1_ hb)))
          (try simp only [Exit.jump]); go_ret
          exact ⟨openN 0, p + 3 + 14, true, rfl, Turned.of_sep (mk := fun _ => tkR g (.slice A b.length c) (p + 3 + 14) true) (F' := fun _ => True) HS.out HB0.out HB.out, by omega, (fun _ => rfl), (fun n p' h h2 => by rw [HN.out] at h; cases h), (fun _ => rfl)⟩
      -- 3
      · obtain ⟨r1, r2, hA1, hne⟩ : ∃ r1 r2, atR b ((p + 3 : Nat) : Int) ((1 : Nat) : Int) = (r1, r2) ∧ (r1 == 1) = false ∧ (p + 4 ≤ 8 * b.length → r2 = 0) := by
          by_cases hin : p + 3 + 1 ≤ 8 * b.length
          · refine ⟨_, _, atR_ok (by omega) hin, ?_, fun _ => rfl⟩
            have := bt_lt b (p + 3)
            rw [val_one, beq_eq_false_iff_ne]
            have h1 : ¬ bt b (p + 3) = 1 := fun h => hn ⟨by omega, hin, h⟩
            omega
          · exact ⟨_, _, atR_bad (by omega) (by omega), rfl, fun h => absurd h (by omega)⟩
        obtain ⟨hne, hr2⟩ := hne
        have HA1 := Aside0.mk hA1
        obtain ⟨bad1, hbad1⟩ : ∃ x, x = (bad || (r2 != 0)) := ⟨_, rfl⟩
        have HB1 := Aside0.mk hbad1
        by_cases hq : p + 4 + 32 ≤ 8 * b.length
        · have HA2 := Aside0.mk (show atR b ((p + 4 : Nat) : Int) ((32 : Nat) : Int) = ((val b (p + 4) 32 : Int), 0) from atR_ok (by omega) hq)
          have HD := Aside0.mk (dec_X (b := b) (p := p) (k := 3) HK.out hq)
          have hdd := HD.out
          rw [show wid 3 = 32 from rfl, show headW 3 = 4 from rfl] at hdd
          have hu0 := val_lt b (p + 4) 32
          obtain ⟨u, hu⟩ : ∃ u, u = val b (p + 4) 32 := ⟨_, rfl⟩
          rw [← hu] at HA2 hu0 hdd
          have hb1 : bad1 = bad := by rw [hbad1, hr2 (by omega)]; simp
          have HBB := Aside0.mk hb1
          have HU := Aside0.mk (show u < 2 ^ 64 from Nat.lt_of_lt_of_le hu0 (by decide))
          have HD2 := Aside0.mk hdd
          by_cases hcn : u < 16384
          · have hz : ((u : Int) / 16384 == 0) = true := by rw [beq_iff_eq]; omega
            have hz2 : (u : Int) / 16384 = 0 := by omega
            have HN := Aside0.mk (show decS b p = none from decS_N HD2.out ⟨by omega, hcn⟩)
            clear hq hu hu0 hb1 hbad1 hdd HD hk hn hj hj4 hle hcn hA1 hr2
            go_wp2_with (first
              | (go_at_call 97; ((with_reducible refine (steps_widths.calls 0 7 14 32 64 _ rfl).mono ?_); rintro e w2 ⟨rfl, hb⟩; have n0_ := Aside0.mk (below_step (by repeat (first | (with_reducible first | exact HB.out | apply below_alloc | apply pw_below_drewN | apply below_drew1) | exact HB.out)) hb); have n1_ := Aside0.mk (Sep.below (by repeat (first | (with_reducible first | exact HS.out | apply sep_alloc | apply sep_drewN | apply sep_drew) | exact HS.out)) hb); clear HB HS; have HB := n0_; have HS := n1_; clear n0_ n1_ hb; (try clear hf2 hc2); have hf2 := Sep.free HS.out 2; have hc2 := Sep.c32 HS.out))
              | ((with_reducible refine gate_dst (N := 10) rfl ?_); (try (refine gate_guard (by rfl) ?_; dsimp only)); refine goesL_ (some 10) rfl rfl Try.func101 (by kernel_rfl) rfl #[.pointer (some ⟨g, 0, none⟩), .int .i64 1] rfl (by (try simp only [List.map_toArray, List.map_cons, List.map_nil]); first | done | rfl) ?_; (with_reducible refine (tktake_n g A c b (p + 3) 1 bad r1 r2 bad1 1 (p + 4) w0 _ rfl (by omega) HB.out HS.out.own HR.out HC.out HBY.out HL.out (by omega) (by have := HP.out; omega) HA1.out HB1.out).mono ?_); rintro e w8 ⟨rfl, ht⟩; refine ⟨_, rfl, ?_⟩; obtain ⟨F_, hs_⟩ := Turned.sep ht (HS.out) rfl; have n0_ := Aside0.mk (Turned.below ht); clear HB HS ht; have HB := n0_; have HS := Aside0.mk hs_; clear n0_ hs_)
              | ((with_reducible refine gate_dst (N := 20) rfl ?_); (try (refine gate_guard (by rfl) ?_; dsimp only)); refine goesL_ (some 20) rfl rfl Try.func101 (by kernel_rfl) rfl #[.pointer (some ⟨g, 0, none⟩), .int .i64 32] rfl (by (try simp only [List.map_toArray, List.map_cons, List.map_nil]); first | done | rfl) ?_; (with_reducible refine (tktake_n g A c b (p + 4) 32 bad1 (u : Int) 0 bad1 32 (p + 4 + 32) w0 _ rfl (by omega) HB.out HS.out.own HR.out HC.out HBY.out HL.out (by omega) (by have := HP.out; omega) HA2.out (by simp)).mono ?_); rintro e w9 ⟨rfl, ht⟩; refine ⟨_, rfl, ?_⟩; obtain ⟨F_, hs_⟩ := Turned.sep ht (HS.out) rfl; have n0_ := Aside0.mk (Turned.below ht); clear HB HS ht; have HB := n0_; have HS := Aside0.mk hs_; clear n0_ hs_; (try clear hf2 hc2); have hf2 := Sep.free HS.out 2; have hc2 := Sep.c32 HS.out)
              | (go_at_call 102; (have n0_ := Aside0.mk (below_set (j := 2) (v := .bool true) HB.out HS.out.ge); have n1_ := Aside0.mk (HS.out.s32 (.bool true)); clear HB HS; have HB := n0_; have HS := n1_; clear n0_ n1_; (with_reducible refine (open_n (u : Int) u _ (by simp) HU.out).mono ?_); rintro e w3 ⟨rfl, hb⟩; have n0_ := Aside0.mk (below_step (by repeat (first | (with_reducible first | exact HB.out | apply below_alloc | apply pw_below_drewN | apply below_drew1) | exact HB.out)) hb); have n1_ := Aside0.mk (Sep.below (by repeat (first | (with_reducible first | exact HS.out | apply sep_alloc | apply sep_drewN | apply sep_drew) | exact HS.out)) hb); clear HB HS; have HB := n0_; have HS := n1_; clear n0_ n1_ hb)))
            (try simp only [Exit.jump]); go_ret
            exact ⟨openN u, p + 4 + 32, true, rfl, Turned.of_sep (mk := fun _ => tkR g (.slice A b.length c) (p + 4 + 32) true) (F' := fun _ => True) HS.out HB0.out HB.out, by omega, (fun _ => rfl), (fun n p' h h2 => by rw [HN.out] at h; cases h), (fun _ => rfl)⟩
          · have hz : ((u : Int) / 16384 == 0) = false := by rw [beq_eq_false_iff_ne]; omega
            have hz2 : ((u : Int) / 16384 = 0) = False := eq_false (by omega)
            have HN := Aside0.mk (show decS b p = some (openN u, p + 4 + 32) from decS_X HD2.out (by rintro ⟨_, h⟩; exact hcn h))
            clear hq hu hu0 hb1 hbad1 hdd HD hk hn hj hj4 hle hcn hA1 hr2
            go_wp2_with (first
              | (go_at_call 97; ((with_reducible refine (steps_widths.calls 0 7 14 32 64 _ rfl).mono ?_); rintro e w2 ⟨rfl, hb⟩; have n0_ := Aside0.mk (below_step (by repeat (first | (with_reducible first | exact HB.out | apply below_alloc | apply pw_below_drewN | apply below_drew1) | exact HB.out)) hb); have n1_ := Aside0.mk (Sep.below (by repeat (first | (with_reducible first | exact HS.out | apply sep_alloc | apply sep_drewN | apply sep_drew) | exact HS.out)) hb); clear HB HS; have HB := n0_; have HS := n1_; clear n0_ n1_ hb; (try clear hf2 hc2); have hf2 := Sep.free HS.out 2; have hc2 := Sep.c32 HS.out))
              | ((with_reducible refine gate_dst (N := 10) rfl ?_); (try (refine gate_guard (by rfl) ?_; dsimp only)); refine goesL_ (some 10) rfl rfl Try.func101 (by kernel_rfl) rfl #[.pointer (some ⟨g, 0, none⟩), .int .i64 1] rfl (by (try simp only [List.map_toArray, List.map_cons, List.map_nil]); first | done | rfl) ?_; (with_reducible refine (tktake_n g A c b (p + 3) 1 bad r1 r2 bad1 1 (p + 4) w0 _ rfl (by omega) HB.out HS.out.own HR.out HC.out HBY.out HL.out (by omega) (by have := HP.out; omega) HA1.out HB1.out).mono ?_); rintro e w8 ⟨rfl, ht⟩; refine ⟨_, rfl, ?_⟩; obtain ⟨F_, hs_⟩ := Turned.sep ht (HS.out) rfl; have n0_ := Aside0.mk (Turned.below ht); clear HB HS ht; have HB := n0_; have HS := Aside0.mk hs_; clear n0_ hs_)
              | ((with_reducible refine gate_dst (N := 20) rfl ?_); (try (refine gate_guard (by rfl) ?_; dsimp only)); refine goesL_ (some 20) rfl rfl Try.func101 (by kernel_rfl) rfl #[.pointer (some ⟨g, 0, none⟩), .int .i64 32] rfl (by (try simp only [List.map_toArray, List.map_cons, List.map_nil]); first | done | rfl) ?_; (with_reducible refine (tktake_n g A c b (p + 4) 32 bad1 (u : Int) 0 bad1 32 (p + 4 + 32) w0 _ rfl (by omega) HB.out HS.out.own HR.out HC.out HBY.out HL.out (by omega) (by have := HP.out; omega) HA2.out (by simp)).mono ?_); rintro e w9 ⟨rfl, ht⟩; refine ⟨_, rfl, ?_⟩; obtain ⟨F_, hs_⟩ := Turned.sep ht (HS.out) rfl; have n0_ := Aside0.mk (Turned.below ht); clear HB HS ht; have HB := n0_; have HS := Aside0.mk hs_; clear n0_ hs_; (try clear hf2 hc2); have hf2 := Sep.free HS.out 2; have hc2 := Sep.c32 HS.out)
              | (go_at_call 102; ((with_reducible refine (open_n (u : Int) u _ (by simp) HU.out).mono ?_); rintro e w3 ⟨rfl, hb⟩; have n0_ := Aside0.mk (below_step (by repeat (first | (with_reducible first | exact HB.out | apply below_alloc | apply pw_below_drewN | apply below_drew1) | exact HB.out)) hb); have n1_ := Aside0.mk (Sep.below (by repeat (first | (with_reducible first | exact HS.out | apply sep_alloc | apply sep_drewN | apply sep_drew) | exact HS.out)) hb); clear HB HS; have HB := n0_; have HS := n1_; clear n0_ n1_ hb)))
            (try simp only [Exit.jump]); go_ret
            exact ⟨openN u, p + 4 + 32, bad1, rfl, Turned.of_sep (mk := fun _ => tkR g (.slice A b.length c) (p + 4 + 32) bad1) (F' := fun _ => True) HS.out HB0.out HB.out, by omega, (fun h => by rw [HBB.out, h]), (fun n p' h h2 => by rw [HN.out] at h; injection h with h; injection h with h3 h4; exact ⟨by rw [HBB.out, h2], h3, h4⟩), (fun h => by rw [HN.out] at h; cases h)⟩
        · have HA2 := Aside0.mk (show atR b ((p + 4 : Nat) : Int) ((32 : Nat) : Int) = (0, 2) from atR_bad (by omega) (by omega))
          have HN := Aside0.mk (show decS b p = none from dec_Y (k := 3) HK.out hq)
          clear hq hbad1 hk hn hj hj4 hle hA1 hr2
          go_wp2_with (first
            | (go_at_call 97; ((with_reducible refine (steps_widths.calls 0 7 14 32 64 _ rfl).mono ?_); rintro e w2 ⟨rfl, hb⟩; have n0_ := Aside0.mk (below_step (by repeat (first | (with_reducible first | exact HB.out | apply below_alloc | apply pw_below_drewN | apply below_drew1) | exact HB.out)) hb); have n1_ := Aside0.mk (Sep.below (by repeat (first | (with_reducible first | exact HS.out | apply sep_alloc | apply sep_drewN | apply sep_drew) | exact HS.out)) hb); clear HB HS; have HB := n0_; have HS := n1_; clear n0_ n1_ hb; (try clear hf2 hc2); have hf2 := Sep.free HS.out 2; have hc2 := Sep.c32 HS.out))
            | ((with_reducible refine gate_dst (N := 10) rfl ?_); (try (refine gate_guard (by rfl) ?_; dsimp only)); refine goesL_ (some 10) rfl rfl Try.func101 (by kernel_rfl) rfl #[.pointer (some ⟨g, 0, none⟩), .int .i64 1] rfl (by (try simp only [List.map_toArray, List.map_cons, List.map_nil]); first | done | rfl) ?_; (with_reducible refine (tktake_n g A c b (p + 3) 1 bad r1 r2 bad1 1 (p + 4) w0 _ rfl (by omega) HB.out HS.out.own HR.out HC.out HBY.out HL.out (by omega) (by have := HP.out; omega) HA1.out HB1.out).mono ?_); rintro e w8 ⟨rfl, ht⟩; refine ⟨_, rfl, ?_⟩; obtain ⟨F_, hs_⟩ := Turned.sep ht (HS.out) rfl; have n0_ := Aside0.mk (Turned.below ht); clear HB HS ht; have HB := n0_; have HS := Aside0.mk hs_; clear n0_ hs_)
            | ((with_reducible refine gate_dst (N := 20) rfl ?_); (try (refine gate_guard (by rfl) ?_; dsimp only)); refine goesL_ (some 20) rfl rfl Try.func101 (by kernel_rfl) rfl #[.pointer (some ⟨g, 0, none⟩), .int .i64 32] rfl (by (try simp only [List.map_toArray, List.map_cons, List.map_nil]); first | done | rfl) ?_; (with_reducible refine (tktake_n g A c b (p + 4) 32 bad1 0 2 true 32 (p + 4 + 32) w0 _ rfl (by omega) HB.out HS.out.own HR.out HC.out HBY.out HL.out (by omega) (by have := HP.out; omega) HA2.out (by simp)).mono ?_); rintro e w9 ⟨rfl, ht⟩; refine ⟨_, rfl, ?_⟩; obtain ⟨F_, hs_⟩ := Turned.sep ht (HS.out) rfl; have n0_ := Aside0.mk (Turned.below ht); clear HB HS ht; have HB := n0_; have HS := Aside0.mk hs_; clear n0_ hs_; (try clear hf2 hc2); have hf2 := Sep.free HS.out 2; have hc2 := Sep.c32 HS.out)
            | (go_at_call 102; (have n0_ := Aside0.mk (below_set (j := 2) (v := .bool true) HB.out HS.out.ge); have n1_ := Aside0.mk (HS.out.s32 (.bool true)); clear HB HS; have HB := n0_; have HS := n1_; clear n0_ n1_; (with_reducible refine (open_n 0 0 _ (by simp) (by decide)).mono ?_); rintro e w3 ⟨rfl, hb⟩; have n0_ := Aside0.mk (below_step (by repeat (first | (with_reducible first | exact HB.out | apply below_alloc | apply pw_below_drewN | apply below_drew1) | exact HB.out)) hb); have n1_ := Aside0.mk (Sep.below (by repeat (first | (with_reducible first | exact HS.out | apply sep_alloc | apply sep_drewN | apply sep_drew) | exact HS.out)) hb); clear HB HS; have HB := n0_; have HS := n1_; clear n0_ n1_ hb)))
          (try simp only [Exit.jump]); go_ret
          exact ⟨openN 0, p + 4 + 32, true, rfl, Turned.of_sep (mk := fun _ => tkR g (.slice A b.length c) (p + 4 + 32) true) (F' := fun _ => True) HS.out HB0.out HB.out, by omega, (fun _ => rfl), (fun n p' h h2 => by rw [HN.out] at h; cases h), (fun _ => rfl)⟩
      -- 4
      · obtain ⟨bad1, hbad1⟩ : ∃ x, x = bad := ⟨_, rfl⟩
        have HB1 := Aside0.mk hbad1
        have hss := HS.out
        rw [← hbad1] at hss
        clear HS
        have HS := Aside0.mk hss
        clear hss
        by_cases hq : p + 4 + 64 ≤ 8 * b.length
        · have HA2 := Aside0.mk (show atR b ((p + 4 : Nat) : Int) ((64 : Nat) : Int) = ((val b (p + 4) 64 : Int), 0) from atR_ok (by omega) hq)
          have HD := Aside0.mk (dec_X (b := b) (p := p) (k := 4) HK.out hq)
          have hdd := HD.out
          rw [show wid 4 = 64 from rfl, show headW 4 = 4 from rfl] at hdd
          have hu0 := val_lt b (p + 4) 64
          obtain ⟨u, hu⟩ : ∃ u, u = val b (p + 4) 64 := ⟨_, rfl⟩
          rw [← hu] at HA2 hu0 hdd
          have hb1 : bad1 = bad := hbad1
          have HBB := Aside0.mk hb1
          have HU := Aside0.mk (show u < 2 ^ 64 from Nat.lt_of_lt_of_le hu0 (by decide))
          have HD2 := Aside0.mk hdd
          by_cases hcn : u < 4294967296
          · have hz : ((u : Int) / 4294967296 == 0) = true := by rw [beq_iff_eq]; omega
            have hz2 : (u : Int) / 4294967296 = 0 := by omega
            have HN := Aside0.mk (show decS b p = none from decS_N HD2.out ⟨by omega, hcn⟩)
            clear hq hu hu0 hb1 hbad1 hdd HD hk hn hj hj4 hle hcn
            go_wp2_with (first
              | (go_at_call 97; ((with_reducible refine (steps_widths.calls 0 7 14 32 64 _ rfl).mono ?_); rintro e w2 ⟨rfl, hb⟩; have n0_ := Aside0.mk (below_step (by repeat (first | (with_reducible first | exact HB.out | apply below_alloc | apply pw_below_drewN | apply below_drew1) | exact HB.out)) hb); have n1_ := Aside0.mk (Sep.below (by repeat (first | (with_reducible first | exact HS.out | apply sep_alloc | apply sep_drewN | apply sep_drew) | exact HS.out)) hb); clear HB HS; have HB := n0_; have HS := n1_; clear n0_ n1_ hb; (try clear hf2 hc2); have hf2 := Sep.free HS.out 2; have hc2 := Sep.c32 HS.out))
              | ((with_reducible refine gate_dst (N := 20) rfl ?_); (try (refine gate_guard (by rfl) ?_; dsimp only)); refine goesL_ (some 20) rfl rfl Try.func101 (by kernel_rfl) rfl #[.pointer (some ⟨g, 0, none⟩), .int .i64 64] rfl (by (try simp only [List.map_toArray, List.map_cons, List.map_nil]); first | done | rfl) ?_; (with_reducible refine (tktake_n g A c b (p + 4) 64 bad1 (u : Int) 0 bad1 64 (p + 4 + 64) w0 _ rfl (by omega) HB.out HS.out.own HR.out HC.out HBY.out HL.out (by omega) (by have := HP.out; omega) HA2.out (by simp)).mono ?_); rintro e w9 ⟨rfl, ht⟩; refine ⟨_, rfl, ?_⟩; obtain ⟨F_, hs_⟩ := Turned.sep ht (HS.out) rfl; have n0_ := Aside0.mk (Turned.below ht); clear HB HS ht; have HB := n0_; have HS := Aside0.mk hs_; clear n0_ hs_; (try clear hf2 hc2); have hf2 := Sep.free HS.out 2; have hc2 := Sep.c32 HS.out)
              | (go_at_call 102; (have n0_ := Aside0.mk (below_set (j := 2) (v := .bool true) HB.out HS.out.ge); have n1_ := Aside0.mk (HS.out.s32 (.bool true)); clear HB HS; have HB := n0_; have HS := n1_; clear n0_ n1_; (with_reducible refine (open_n (u : Int) u _ (by simp) HU.out).mono ?_); rintro e w3 ⟨rfl, hb⟩; have n0_ := Aside0.mk (below_step (by repeat (first | (with_reducible first | exact HB.out | apply below_alloc | apply pw_below_drewN | apply below_drew1) | exact HB.out)) hb); have n1_ := Aside0.mk (Sep.below (by repeat (first | (with_reducible first | exact HS.out | apply sep_alloc | apply sep_drewN | apply sep_drew) | exact HS.out)) hb); clear HB HS; have HB := n0_; have HS := n1_; clear n0_ n1_ hb)))
            (try simp only [Exit.jump]); go_ret
            exact ⟨openN u, p + 4 + 64, true, rfl, Turned.of_sep (mk := fun _ => tkR g (.slice A b.length c) (p + 4 + 64) true) (F' := fun _ => True) HS.out HB0.out HB.out, by omega, (fun _ => rfl), (fun n p' h h2 => by rw [HN.out] at h; cases h), (fun _ => rfl)⟩
          · have hz : ((u : Int) / 4294967296 == 0) = false := by rw [beq_eq_false_iff_ne]; omega
            have hz2 : ((u : Int) / 4294967296 = 0) = False := eq_false (by omega)
            have HN := Aside0.mk (show decS b p = some (openN u, p + 4 + 64) from decS_X HD2.out (by rintro ⟨_, h⟩; exact hcn h))
            clear hq hu hu0 hb1 hbad1 hdd HD hk hn hj hj4 hle hcn
            go_wp2_with (first
              | (go_at_call 97; ((with_reducible refine (steps_widths.calls 0 7 14 32 64 _ rfl).mono ?_); rintro e w2 ⟨rfl, hb⟩; have n0_ := Aside0.mk (below_step (by repeat (first | (with_reducible first | exact HB.out | apply below_alloc | apply pw_below_drewN | apply below_drew1) | exact HB.out)) hb); have n1_ := Aside0.mk (Sep.below (by repeat (first | (with_reducible first | exact HS.out | apply sep_alloc | apply sep_drewN | apply sep_drew) | exact HS.out)) hb); clear HB HS; have HB := n0_; have HS := n1_; clear n0_ n1_ hb; (try clear hf2 hc2); have hf2 := Sep.free HS.out 2; have hc2 := Sep.c32 HS.out))
              | ((with_reducible refine gate_dst (N := 20) rfl ?_); (try (refine gate_guard (by rfl) ?_; dsimp only)); refine goesL_ (some 20) rfl rfl Try.func101 (by kernel_rfl) rfl #[.pointer (some ⟨g, 0, none⟩), .int .i64 64] rfl (by (try simp only [List.map_toArray, List.map_cons, List.map_nil]); first | done | rfl) ?_; (with_reducible refine (tktake_n g A c b (p + 4) 64 bad1 (u : Int) 0 bad1 64 (p + 4 + 64) w0 _ rfl (by omega) HB.out HS.out.own HR.out HC.out HBY.out HL.out (by omega) (by have := HP.out; omega) HA2.out (by simp)).mono ?_); rintro e w9 ⟨rfl, ht⟩; refine ⟨_, rfl, ?_⟩; obtain ⟨F_, hs_⟩ := Turned.sep ht (HS.out) rfl; have n0_ := Aside0.mk (Turned.below ht); clear HB HS ht; have HB := n0_; have HS := Aside0.mk hs_; clear n0_ hs_; (try clear hf2 hc2); have hf2 := Sep.free HS.out 2; have hc2 := Sep.c32 HS.out)
              | (go_at_call 102; ((with_reducible refine (open_n (u : Int) u _ (by simp) HU.out).mono ?_); rintro e w3 ⟨rfl, hb⟩; have n0_ := Aside0.mk (below_step (by repeat (first | (with_reducible first | exact HB.out | apply below_alloc | apply pw_below_drewN | apply below_drew1) | exact HB.out)) hb); have n1_ := Aside0.mk (Sep.below (by repeat (first | (with_reducible first | exact HS.out | apply sep_alloc | apply sep_drewN | apply sep_drew) | exact HS.out)) hb); clear HB HS; have HB := n0_; have HS := n1_; clear n0_ n1_ hb)))
            (try simp only [Exit.jump]); go_ret
            exact ⟨openN u, p + 4 + 64, bad1, rfl, Turned.of_sep (mk := fun _ => tkR g (.slice A b.length c) (p + 4 + 64) bad1) (F' := fun _ => True) HS.out HB0.out HB.out, by omega, (fun h => by rw [HBB.out, h]), (fun n p' h h2 => by rw [HN.out] at h; injection h with h; injection h with h3 h4; exact ⟨by rw [HBB.out, h2], h3, h4⟩), (fun h => by rw [HN.out] at h; cases h)⟩
        · have HA2 := Aside0.mk (show atR b ((p + 4 : Nat) : Int) ((64 : Nat) : Int) = (0, 2) from atR_bad (by omega) (by omega))
          have HN := Aside0.mk (show decS b p = none from dec_Y (k := 4) HK.out hq)
          clear hq hbad1 hk hn hj hj4 hle
          go_wp2_with (first
            | (go_at_call 97; ((with_reducible refine (steps_widths.calls 0 7 14 32 64 _ rfl).mono ?_); rintro e w2 ⟨rfl, hb⟩; have n0_ := Aside0.mk (below_step (by repeat (first | (with_reducible first | exact HB.out | apply below_alloc | apply pw_below_drewN | apply below_drew1) | exact HB.out)) hb); have n1_ := Aside0.mk (Sep.below (by repeat (first | (with_reducible first | exact HS.out | apply sep_alloc | apply sep_drewN | apply sep_drew) | exact HS.out)) hb); clear HB HS; have HB := n0_; have HS := n1_; clear n0_ n1_ hb; (try clear hf2 hc2); have hf2 := Sep.free HS.out 2; have hc2 := Sep.c32 HS.out))
            | ((with_reducible refine gate_dst (N := 20) rfl ?_); (try (refine gate_guard (by rfl) ?_; dsimp only)); refine goesL_ (some 20) rfl rfl Try.func101 (by kernel_rfl) rfl #[.pointer (some ⟨g, 0, none⟩), .int .i64 64] rfl (by (try simp only [List.map_toArray, List.map_cons, List.map_nil]); first | done | rfl) ?_; (with_reducible refine (tktake_n g A c b (p + 4) 64 bad1 0 2 true 64 (p + 4 + 64) w0 _ rfl (by omega) HB.out HS.out.own HR.out HC.out HBY.out HL.out (by omega) (by have := HP.out; omega) HA2.out (by simp)).mono ?_); rintro e w9 ⟨rfl, ht⟩; refine ⟨_, rfl, ?_⟩; obtain ⟨F_, hs_⟩ := Turned.sep ht (HS.out) rfl; have n0_ := Aside0.mk (Turned.below ht); clear HB HS ht; have HB := n0_; have HS := Aside0.mk hs_; clear n0_ hs_; (try clear hf2 hc2); have hf2 := Sep.free HS.out 2; have hc2 := Sep.c32 HS.out)
            | (go_at_call 102; (have n0_ := Aside0.mk (below_set (j := 2) (v := .bool true) HB.out HS.out.ge); have n1_ := Aside0.mk (HS.out.s32 (.bool true)); clear HB HS; have HB := n0_; have HS := n1_; clear n0_ n1_; (with_reducible refine (open_n 0 0 _ (by simp) (by decide)).mono ?_); rintro e w3 ⟨rfl, hb⟩; have n0_ := Aside0.mk (below_step (by repeat (first | (with_reducible first | exact HB.out | apply below_alloc | apply pw_below_drewN | apply below_drew1) | exact HB.out)) hb); have n1_ := Aside0.mk (Sep.below (by repeat (first | (with_reducible first | exact HS.out | apply sep_alloc | apply sep_drewN | apply sep_drew) | exact HS.out)) hb); clear HB HS; have HB := n0_; have HS := n1_; clear n0_ n1_ hb)))
          (try simp only [Exit.jump]); go_ret
          exact ⟨openN 0, p + 4 + 64, true, rfl, Turned.of_sep (mk := fun _ => tkR g (.slice A b.length c) (p + 4 + 64) true) (F' := fun _ => True) HS.out HB0.out HB.out, by omega, (fun _ => rfl), (fun n p' h h2 => by rw [HN.out] at h; cases h), (fun _ => rfl)⟩
  case first =>
    intro F hL
    go_wp2
    go_step3
    go_step
    go_step
    refine hL 4 _ _ ?_
    (repeat apply Exists.intro)
    refine ⟨?_, rfl⟩
    exact ⟨0, rfl, ⟨by omega, Nat.zero_le _⟩, HS, HB⟩
end Go.Proofs.Ythkpnnbjcendcaa.Sc
end
