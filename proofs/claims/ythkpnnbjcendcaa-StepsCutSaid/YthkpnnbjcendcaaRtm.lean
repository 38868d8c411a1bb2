/- The reference's reader.mark, walked (printed by rtm.py). -/
import Derived.Test.YthkpnnbjcendcaaRtk
set_option linter.unusedVariables false
set_option linter.unusedSimpArgs false
open Go.RowKit Go.Proofs.Ythkpnnbjcendcaa.X Go.Proofs.Ythkpnnbjcendcaa.Pl Go.Proofs.Ythkpnnbjcendcaa.Sp Go.Proofs.Ythkpnnbjcendcaa.Pure Go.Proofs.YthkpnnbjcendcaaW.PrintWords Go.Proofs.YthkpnnbjcendcaaW.PrintLast Go.Proofs.YthkpnnbjcendcaaW.PrintMore
namespace Go.Proofs.Ythkpnnbjcendcaa.Sc
theorem refopen_n (ui : Int) (u : Nat) (w : World) (hu : ui = (u : Int)) (h : u < 2 ^ 64) : Calls Try.prog 105 #[.int .u64 ui] w fun e w' => e = .returned (.int .i64 (openN u)) ∧ Below w.heap.size w w' := by
  subst hu
  refine (marigraphref01_Open.calls _ _ w (ref_open_f h)).mono ?_
  rintro e w' ⟨rfl, hd⟩
  exact ⟨rfl, hd.below⟩
theorem decL_X {b : List Int} {p k u q : Nat} (h : decM b p = some (k, u, q)) : decL b p = some (openN u, q) := by
  unfold decL
  rw [h]
theorem decL_Y {b : List Int} {p k : Nat} (hk : onesAt b p = k) (h : ¬ p + headW k + wid k ≤ 8 * b.length) : decL b p = none := by
  unfold decL decM
  rw [hk, if_neg h]
/-- The widths, in memory. -/
theorem wid_at {w : World} {A : Option Addr} (h : Kd.C (Kd.int .i64) w A ([0, 7, 14, 32, 64] : List Int).length ([0, 7, 14, 32, 64] : List Int)) (k : Nat) (hk : k < 5) : ∃ ad, A = some ad ∧ w.cell? (ad.add k) = some (.int .i64 (([0, 7, 14, 32, 64] : List Int).getD k 0)) := by
  obtain ⟨ad, e, hx⟩ := Kd.at_int h (k : Int) (by omega) (by show (k : Int) < 5; omega)
  rw [Int.toNat_natCast, rd_get] at hx
  exact ⟨ad, e, hx⟩
/-- What a reader's next bits are, whatever stands there. -/
theorem at_any (b : List Int) (p wd : Nat) (bad : Bool) (hw : wd ≤ 64) : ∃ (u : Nat) (r1 r2 : Int) (q : Nat) (bad' : Bool), u < 2 ^ 64 ∧ atR b (p : Int) (wd : Int) = (r1, r2) ∧ (r2 = 0 ∧ (u : Int) = r1 ∧ q = p + wd ∧ bad' = bad ∨ r2 ≠ 0 ∧ (u : Int) = 0 ∧ q = p ∧ bad' = true) ∧ q ≤ p + wd ∧ (bad = true → bad' = true) := by
  by_cases h : p + wd ≤ 8 * b.length
  · exact ⟨val b p wd, _, _, p + wd, bad, Nat.lt_of_lt_of_le (val_lt b p wd) (Nat.pow_le_pow_right (by decide) hw), atR_ok hw h, .inl ⟨rfl, rfl, rfl, rfl⟩, Nat.le_refl _, id⟩
  · exact ⟨0, _, _, p, true, by decide, atR_bad hw (by omega), .inr ⟨by decide, rfl, rfl, rfl⟩, Nat.le_add_right _ _, fun _ => rfl⟩
set_option maxHeartbeats 16000000 in
set_option maxRecDepth 100000 in
theorem rdmark_calls (g : Nat) (A : Option Addr) (c : Nat) (b : List Int) (p : Nat) (bad : Bool) (w0 w : World) (hB : Below w0.heap.size w0 w) (hO : Own w0.heap.size w (rdR g (.slice A b.length c) p bad)) (hr : Kd.C (Kd.int .u8) w0 A b.length b) (hc : b.length ≤ c) (hby : Byt b) (hl : b.length < 1000000) (hp : p < 900000000) :
    Calls Try.prog 80 #[.pointer (some ⟨g, 0, none⟩)] w fun e w' => MarkR (rdR g (.slice A b.length c)) g (decL b p) p bad w0 w e w' := by
  have HB0 := Aside0.mk hB
  have HB := Aside0.mk hB
  have HS := Aside0.mk (Sep.start hO)
  have HR := Aside0.mk hr
  have HC := Aside0.mk hc
  have HBY := Aside0.mk hby
  have HL := Aside0.mk hl
  have HP := Aside0.mk hp
  clear hB hO hr hc hby hl hp
  go_enter Try.func80, Try.ntmps80
  go_wp2
  go_loopg [3] 4 (fun kq v3 w' => ∃ (j : Nat), v3 = .int .i64 (j : Int) ∧ Aside0 (kq + j = 4 ∧ j ≤ onesAt b p) ∧ Aside0 (Sep w0.heap.size w' [rdR g (.slice A b.length c) (p + j) bad, frameR w0.heap.size w (rdR g (.slice A b.length c) p bad).foot]) ∧ Aside0 (Below w0.heap.size w0 w'))
  case atStart => exact ⟨0, rfl, ⟨by omega, Nat.zero_le _⟩, HS, HB⟩
  case round =>
    clear HS HB
    obtain ⟨j, rfl, HI, HS, HB⟩ := hrel
    have hle := HI.out.2
    by_cases hj : j < onesAt b p
    · have hn := (ones_next hle).1 hj
      have HA := Aside0.mk (show atR b ((p + j : Nat) : Int) ((1 : Nat) : Int) = (1, 0) by rw [atR_ok (by omega) (by omega), val_one, hn.2.2]; rfl)
      have c1b : decide ((j : Int) < 4) = true := decide_eq_true (by omega)
      have c1n : decide (j < 4) = true := decide_eq_true hn.1
      have hnx : wrap64 ((j : Int) + 1) = ((j + 1 : Nat) : Int) := by rw [w64 (by omega) (by omega)]; simp
      obtain ⟨k1, rfl⟩ : ∃ q, gk = q + 1 := ⟨gk - 1, by have := HI.out; omega⟩
      have HX := Aside0.mk hnx
      have HJ := Aside0.mk hj
      have HN4 := Aside0.mk hn.1
      clear hnx hn hj hle
      go_wp2_with (first
        | ((with_reducible refine gate_dst (N := 9) rfl ?_); (try (refine gate_guard (by rfl) ?_; dsimp only)); refine goesL_ (some 9) rfl rfl Try.func104 (by kernel_rfl) rfl #[.pointer (some ⟨g, 0, none⟩), .int .i64 1] rfl (by (try simp only [List.map_toArray, List.map_cons, List.map_nil]); first | done | rfl) ?_; (with_reducible refine (rdtake_calls g A c b (p + j) 1 bad 1 0 1 (p + (j + 1)) bad 1 w0 _ rfl HB.out HS.out.own HR.out HC.out HBY.out HL.out (by omega) (by have := HP.out; have := HN4.out; omega) HA.out (.inl ⟨rfl, rfl, by omega, rfl⟩)).mono ?_); rintro e w8 ⟨rfl, ht⟩; refine ⟨_, rfl, ?_⟩; obtain ⟨F_, hs_⟩ := Turned.sep ht (HS.out) rfl; have n0_ := Aside0.mk (Turned.below ht); clear HB HS ht; have HB := n0_; have HS := Aside0.mk hs_; clear n0_ hs_))
      go_roundg k1
      case measure => omega
      case rel => exact ⟨j + 1, (by first | rfl | rw [HX.out]), ⟨by have := HI.out; omega, HJ.out⟩, HS, HB⟩
    · have hk : onesAt b p = j := by omega
      have hn := mt (ones_next hle).2 hj
      have hj4 := ones_le b p
      rw [hk] at hj4
      have HK := Aside0.mk hk
      rcases (by omega : j = 0 ∨ j = 1 ∨ j = 2 ∨ j = 3 ∨ j = 4) with rfl | rfl | rfl | rfl | rfl
      -- 0
      · by_cases hin1 : p + 0 + 1 ≤ 8 * b.length
        · obtain ⟨z, hA1, hne⟩ : ∃ z, atR b ((p + 0 : Nat) : Int) ((1 : Nat) : Int) = (z, 0) ∧ (z == 1) = false := by
            refine ⟨_, atR_ok (by omega) hin1, ?_⟩
            have := bt_lt b (p + 0)
            rw [val_one, beq_eq_false_iff_ne]
            have h1 : ¬ bt b (p + 0) = 1 := fun h => hn ⟨by omega, hin1, h⟩
            omega
          have HA1 := Aside0.mk hA1
          clear hA1
          obtain ⟨u, r1, r2, q, bad', hu, hA2, hx2, hq2, hbm⟩ := at_any b (p + 1) 0 bad (by decide)
          have HA2 := Aside0.mk hA2
          have HX2 := Aside0.mk hx2
          have HU := Aside0.mk hu
          have HQ2 := Aside0.mk hq2
          have HBM := Aside0.mk hbm
          have HXX := Aside0.mk (show ∀ n p', decL b p = some (n, p') → bad' = bad ∧ openN u = n ∧ q = p' ∧ True from fun n p' h => by
            by_cases hin : p + 1 + 0 ≤ 8 * b.length
            · have hd := decL_X (dec_X (b := b) (p := p) (k := 0) HK.out hin)
              rw [hd] at h
              injection h with h
              injection h with h3 h4
              have ha := atR_ok (b := b) (p := p + 1) (wd := 0) (by decide) hin
              rw [HA2.out] at ha
              injection ha with ha1 ha2
              rcases HX2.out with ⟨_, e1, e2, e3⟩ | ⟨e0, _⟩
              · refine ⟨e3, ?_, by rw [e2, ← h4]; rfl, trivial⟩
                rw [← h3]
                congr 1
                rw [ha1] at e1
                exact Int.natCast_inj.1 e1
              · exact absurd ha2 e0
            · rw [decL_Y (k := 0) HK.out hin] at h; cases h)
          have HNN := Aside0.mk (show decL b p = none → bad' = true from fun h => by
            by_cases hin : p + 1 + 0 ≤ 8 * b.length
            · rw [decL_X (dec_X (b := b) (p := p) (k := 0) HK.out hin)] at h; cases h
            · have ha := atR_bad (b := b) (p := p + 1) (wd := 0) (by decide) (by omega)
              rw [HA2.out] at ha
              injection ha with ha1 ha2
              rcases HX2.out with ⟨e0, _⟩ | ⟨_, _, _, e3⟩
              · rw [ha2] at e0; exact absurd e0 (by decide)
              · exact e3)
          clear hin1
          clear hk hn hj hj4 hle hu hA2 hx2 hq2 hbm
          go_wp2_with (first
            | ((with_reducible refine gate_dst (N := 9) rfl ?_); (try (refine gate_guard (by rfl) ?_; dsimp only)); refine goesL_ (some 9) rfl rfl Try.func104 (by kernel_rfl) rfl #[.pointer (some ⟨g, 0, none⟩), .int .i64 1] rfl (by (try simp only [List.map_toArray, List.map_cons, List.map_nil]); first | done | rfl) ?_; (with_reducible refine (rdtake_calls g A c b (p + 0) 1 bad z 0 z (p + 1) bad 1 w0 _ rfl HB.out HS.out.own HR.out HC.out HBY.out HL.out (by decide) (by have := HP.out; omega) HA1.out (.inl ⟨rfl, rfl, by omega, rfl⟩)).mono ?_); rintro e w8 ⟨rfl, ht⟩; refine ⟨_, rfl, ?_⟩; obtain ⟨F_, hs_⟩ := Turned.sep ht (HS.out) rfl; have n0_ := Aside0.mk (Turned.below ht); clear HB HS ht; have HB := n0_; have HS := Aside0.mk hs_; clear n0_ hs_)
            | ((with_reducible refine gate_dst (N := 20) rfl ?_); (try (refine gate_guard (by rfl) ?_; dsimp only)); refine goesL_ (some 20) rfl rfl Try.func104 (by kernel_rfl) rfl #[.pointer (some ⟨g, 0, none⟩), .int .i64 0] rfl (by (try simp only [List.map_toArray, List.map_cons, List.map_nil]); first | done | rfl) ?_; (with_reducible refine (rdtake_calls g A c b (p + 1) 0 bad r1 r2 (u : Int) q bad' 0 w0 _ rfl (below_alloc HB.out _) (sep_alloc HS.out _).own HR.out HC.out HBY.out HL.out (by decide) (by have := HP.out; omega) HA2.out HX2.out).mono ?_); rintro e w9 ⟨rfl, ht⟩; refine ⟨_, rfl, ?_⟩; obtain ⟨F_, hs_⟩ := Turned.sep ht (sep_alloc HS.out _) rfl; have n0_ := Aside0.mk (Turned.below ht); clear HB HS ht; have HB := n0_; have HS := Aside0.mk hs_; clear n0_ hs_)
            | (go_at_call 105; ((with_reducible refine (refopen_n (u : Int) u _ rfl HU.out).mono ?_); rintro e w3 ⟨rfl, hb⟩; have n0_ := Aside0.mk (below_step (by repeat (first | (with_reducible first | exact HB.out | apply below_alloc | apply pw_below_drewN | apply below_drew1) | exact HB.out)) hb); have n1_ := Aside0.mk (Sep.below (by repeat (first | (with_reducible first | exact HS.out | apply sep_alloc | apply sep_drewN | apply sep_drew) | exact HS.out)) hb); clear HB HS; have HB := n0_; have HS := n1_; clear n0_ n1_ hb)))
          go_ret
          exact ⟨openN u, q, bad', rfl, Turned.of_sep (mk := fun _ => rdR g (.slice A b.length c) q bad') (F' := fun _ => True) HS.out HB0.out HB.out, by have := HQ2.out; omega, HBM.out, (fun n p' h h2 => by subst h2; obtain ⟨e1, e2, e3, e4⟩ := HXX.out n p' h; exact ⟨e1, e2, e3⟩), HNN.out⟩
        · have HA1 := Aside0.mk (atR_bad (b := b) (p := p + 0) (wd := 1) (by decide) (by omega))
          obtain ⟨u, r1, r2, q, bad', hu, hA2, hx2, hq2, hbm⟩ := at_any b (p + 0) 0 true (by decide)
          have HA2 := Aside0.mk hA2
          have HX2 := Aside0.mk hx2
          have HU := Aside0.mk hu
          have HQ2 := Aside0.mk hq2
          have HBM := Aside0.mk hbm
          have HNN := Aside0.mk (show decL b p = none from decL_Y (k := 0) HK.out (by show ¬ p + 1 + 0 ≤ _; omega))
          clear hin1
          clear hk hn hj hj4 hle hu hA2 hx2 hq2 hbm
          go_wp2_with (first
            | ((with_reducible refine gate_dst (N := 9) rfl ?_); (try (refine gate_guard (by rfl) ?_; dsimp only)); refine goesL_ (some 9) rfl rfl Try.func104 (by kernel_rfl) rfl #[.pointer (some ⟨g, 0, none⟩), .int .i64 1] rfl (by (try simp only [List.map_toArray, List.map_cons, List.map_nil]); first | done | rfl) ?_; (with_reducible refine (rdtake_calls g A c b (p + 0) 1 bad 0 2 0 (p + 0) true 1 w0 _ rfl HB.out HS.out.own HR.out HC.out HBY.out HL.out (by decide) (by have := HP.out; omega) HA1.out (.inr ⟨by decide, rfl, rfl, rfl⟩)).mono ?_); rintro e w8 ⟨rfl, ht⟩; refine ⟨_, rfl, ?_⟩; obtain ⟨F_, hs_⟩ := Turned.sep ht (HS.out) rfl; have n0_ := Aside0.mk (Turned.below ht); clear HB HS ht; have HB := n0_; have HS := Aside0.mk hs_; clear n0_ hs_)
            | ((with_reducible refine gate_dst (N := 20) rfl ?_); (try (refine gate_guard (by rfl) ?_; dsimp only)); refine goesL_ (some 20) rfl rfl Try.func104 (by kernel_rfl) rfl #[.pointer (some ⟨g, 0, none⟩), .int .i64 0] rfl (by (try simp only [List.map_toArray, List.map_cons, List.map_nil]); first | done | rfl) ?_; (with_reducible refine (rdtake_calls g A c b (p + 0) 0 true r1 r2 (u : Int) q bad' 0 w0 _ rfl (below_alloc HB.out _) (sep_alloc HS.out _).own HR.out HC.out HBY.out HL.out (by decide) (by have := HP.out; omega) HA2.out HX2.out).mono ?_); rintro e w9 ⟨rfl, ht⟩; refine ⟨_, rfl, ?_⟩; obtain ⟨F_, hs_⟩ := Turned.sep ht (sep_alloc HS.out _) rfl; have n0_ := Aside0.mk (Turned.below ht); clear HB HS ht; have HB := n0_; have HS := Aside0.mk hs_; clear n0_ hs_)
            | (go_at_call 105; ((with_reducible refine (refopen_n (u : Int) u _ rfl HU.out).mono ?_); rintro e w3 ⟨rfl, hb⟩; have n0_ := Aside0.mk (below_step (by repeat (first | (with_reducible first | exact HB.out | apply below_alloc | apply pw_below_drewN | apply below_drew1) | exact HB.out)) hb); have n1_ := Aside0.mk (Sep.below (by repeat (first | (with_reducible first | exact HS.out | apply sep_alloc | apply sep_drewN | apply sep_drew) | exact HS.out)) hb); clear HB HS; have HB := n0_; have HS := n1_; clear n0_ n1_ hb)))
          go_ret
          exact ⟨openN u, q, bad', rfl, Turned.of_sep (mk := fun _ => rdR g (.slice A b.length c) q bad') (F' := fun _ => True) HS.out HB0.out HB.out, by have := HQ2.out; omega, (fun _ => by have := HBM.out; simpa using this), (fun n p' h h2 => by rw [HNN.out] at h; cases h), (fun _ => by have := HBM.out; simpa using this)⟩
      -- 1
      · by_cases hin1 : p + 1 + 1 ≤ 8 * b.length
        · obtain ⟨z, hA1, hne⟩ : ∃ z, atR b ((p + 1 : Nat) : Int) ((1 : Nat) : Int) = (z, 0) ∧ (z == 1) = false := by
            refine ⟨_, atR_ok (by omega) hin1, ?_⟩
            have := bt_lt b (p + 1)
            rw [val_one, beq_eq_false_iff_ne]
            have h1 : ¬ bt b (p + 1) = 1 := fun h => hn ⟨by omega, hin1, h⟩
            omega
          have HA1 := Aside0.mk hA1
          clear hA1
          obtain ⟨u, r1, r2, q, bad', hu, hA2, hx2, hq2, hbm⟩ := at_any b (p + 2) 7 bad (by decide)
          have HA2 := Aside0.mk hA2
          have HX2 := Aside0.mk hx2
          have HU := Aside0.mk hu
          have HQ2 := Aside0.mk hq2
          have HBM := Aside0.mk hbm
          have HXX := Aside0.mk (show ∀ n p', decL b p = some (n, p') → bad' = bad ∧ openN u = n ∧ q = p' ∧ True from fun n p' h => by
            by_cases hin : p + 2 + 7 ≤ 8 * b.length
            · have hd := decL_X (dec_X (b := b) (p := p) (k := 1) HK.out hin)
              rw [hd] at h
              injection h with h
              injection h with h3 h4
              have ha := atR_ok (b := b) (p := p + 2) (wd := 7) (by decide) hin
              rw [HA2.out] at ha
              injection ha with ha1 ha2
              rcases HX2.out with ⟨_, e1, e2, e3⟩ | ⟨e0, _⟩
              · refine ⟨e3, ?_, by rw [e2, ← h4]; rfl, trivial⟩
                rw [← h3]
                congr 1
                rw [ha1] at e1
                exact Int.natCast_inj.1 e1
              · exact absurd ha2 e0
            · rw [decL_Y (k := 1) HK.out hin] at h; cases h)
          have HNN := Aside0.mk (show decL b p = none → bad' = true from fun h => by
            by_cases hin : p + 2 + 7 ≤ 8 * b.length
            · rw [decL_X (dec_X (b := b) (p := p) (k := 1) HK.out hin)] at h; cases h
            · have ha := atR_bad (b := b) (p := p + 2) (wd := 7) (by decide) (by omega)
              rw [HA2.out] at ha
              injection ha with ha1 ha2
              rcases HX2.out with ⟨e0, _⟩ | ⟨_, _, _, e3⟩
              · rw [ha2] at e0; exact absurd e0 (by decide)
              · exact e3)
          clear hin1
          clear hk hn hj hj4 hle hu hA2 hx2 hq2 hbm
          go_wp2_with (first
            | ((with_reducible refine gate_dst (N := 9) rfl ?_); (try (refine gate_guard (by rfl) ?_; dsimp only)); refine goesL_ (some 9) rfl rfl Try.func104 (by kernel_rfl) rfl #[.pointer (some ⟨g, 0, none⟩), .int .i64 1] rfl (by (try simp only [List.map_toArray, List.map_cons, List.map_nil]); first | done | rfl) ?_; (with_reducible refine (rdtake_calls g A c b (p + 1) 1 bad z 0 z (p + 2) bad 1 w0 _ rfl HB.out HS.out.own HR.out HC.out HBY.out HL.out (by decide) (by have := HP.out; omega) HA1.out (.inl ⟨rfl, rfl, by omega, rfl⟩)).mono ?_); rintro e w8 ⟨rfl, ht⟩; refine ⟨_, rfl, ?_⟩; obtain ⟨F_, hs_⟩ := Turned.sep ht (HS.out) rfl; have n0_ := Aside0.mk (Turned.below ht); clear HB HS ht; have HB := n0_; have HS := Aside0.mk hs_; clear n0_ hs_)
            | ((with_reducible refine gate_dst (N := 20) rfl ?_); (try (refine gate_guard (by rfl) ?_; dsimp only)); refine goesL_ (some 20) rfl rfl Try.func104 (by kernel_rfl) rfl #[.pointer (some ⟨g, 0, none⟩), .int .i64 7] rfl (by (try simp only [List.map_toArray, List.map_cons, List.map_nil]); first | done | rfl) ?_; (with_reducible refine (rdtake_calls g A c b (p + 2) 7 bad r1 r2 (u : Int) q bad' 7 w0 _ rfl (below_alloc HB.out _) (sep_alloc HS.out _).own HR.out HC.out HBY.out HL.out (by decide) (by have := HP.out; omega) HA2.out HX2.out).mono ?_); rintro e w9 ⟨rfl, ht⟩; refine ⟨_, rfl, ?_⟩; obtain ⟨F_, hs_⟩ := Turned.sep ht (sep_alloc HS.out _) rfl; have n0_ := Aside0.mk (Turned.below ht); clear HB HS ht; have HB := n0_; have HS := Aside0.mk hs_; clear n0_ hs_)
            | (go_at_call 105; ((with_reducible refine (refopen_n (u : Int) u _ rfl HU.out).mono ?_); rintro e w3 ⟨rfl, hb⟩; have n0_ := Aside0.mk (below_step (by repeat (first | (with_reducible first | exact HB.out | apply below_alloc | apply pw_below_drewN | apply below_drew1) | exact HB.out)) hb); have n1_ := Aside0.mk (Sep.below (by repeat (first | (with_reducible first | exact HS.out | apply sep_alloc | apply sep_drewN | apply sep_drew) | exact HS.out)) hb); clear HB HS; have HB := n0_; have HS := n1_; clear n0_ n1_ hb)))
          go_ret
          exact ⟨openN u, q, bad', rfl, Turned.of_sep (mk := fun _ => rdR g (.slice A b.length c) q bad') (F' := fun _ => True) HS.out HB0.out HB.out, by have := HQ2.out; omega, HBM.out, (fun n p' h h2 => by subst h2; obtain ⟨e1, e2, e3, e4⟩ := HXX.out n p' h; exact ⟨e1, e2, e3⟩), HNN.out⟩
        · have HA1 := Aside0.mk (atR_bad (b := b) (p := p + 1) (wd := 1) (by decide) (by omega))
          obtain ⟨u, r1, r2, q, bad', hu, hA2, hx2, hq2, hbm⟩ := at_any b (p + 1) 7 true (by decide)
          have HA2 := Aside0.mk hA2
          have HX2 := Aside0.mk hx2
          have HU := Aside0.mk hu
          have HQ2 := Aside0.mk hq2
          have HBM := Aside0.mk hbm
          have HNN := Aside0.mk (show decL b p = none from decL_Y (k := 1) HK.out (by show ¬ p + 2 + 7 ≤ _; omega))
          clear hin1
          clear hk hn hj hj4 hle hu hA2 hx2 hq2 hbm
          go_wp2_with (first
            | ((with_reducible refine gate_dst (N := 9) rfl ?_); (try (refine gate_guard (by rfl) ?_; dsimp only)); refine goesL_ (some 9) rfl rfl Try.func104 (by kernel_rfl) rfl #[.pointer (some ⟨g, 0, none⟩), .int .i64 1] rfl (by (try simp only [List.map_toArray, List.map_cons, List.map_nil]); first | done | rfl) ?_; (with_reducible refine (rdtake_calls g A c b (p + 1) 1 bad 0 2 0 (p + 1) true 1 w0 _ rfl HB.out HS.out.own HR.out HC.out HBY.out HL.out (by decide) (by have := HP.out; omega) HA1.out (.inr ⟨by decide, rfl, rfl, rfl⟩)).mono ?_); rintro e w8 ⟨rfl, ht⟩; refine ⟨_, rfl, ?_⟩; obtain ⟨F_, hs_⟩ := Turned.sep ht (HS.out) rfl; have n0_ := Aside0.mk (Turned.below ht); clear HB HS ht; have HB := n0_; have HS := Aside0.mk hs_; clear n0_ hs_)
            | ((with_reducible refine gate_dst (N := 20) rfl ?_); (try (refine gate_guard (by rfl) ?_; dsimp only)); refine goesL_ (some 20) rfl rfl Try.func104 (by kernel_rfl) rfl #[.pointer (some ⟨g, 0, none⟩), .int .i64 7] rfl (by (try simp only [List.map_toArray, List.map_cons, List.map_nil]); first | done | rfl) ?_; (with_reducible refine (rdtake_calls g A c b (p + 1) 7 true r1 r2 (u : Int) q bad' 7 w0 _ rfl (below_alloc HB.out _) (sep_alloc HS.out _).own HR.out HC.out HBY.out HL.out (by decide) (by have := HP.out; omega) HA2.out HX2.out).mono ?_); rintro e w9 ⟨rfl, ht⟩; refine ⟨_, rfl, ?_⟩; obtain ⟨F_, hs_⟩ := Turned.sep ht (sep_alloc HS.out _) rfl; have n0_ := Aside0.mk (Turned.below ht); clear HB HS ht; have HB := n0_; have HS := Aside0.mk hs_; clear n0_ hs_)
            | (go_at_call 105; ((with_reducible refine (refopen_n (u : Int) u _ rfl HU.out).mono ?_); rintro e w3 ⟨rfl, hb⟩; have n0_ := Aside0.mk (below_step (by repeat (first | (with_reducible first | exact HB.out | apply below_alloc | apply pw_below_drewN | apply below_drew1) | exact HB.out)) hb); have n1_ := Aside0.mk (Sep.below (by repeat (first | (with_reducible first | exact HS.out | apply sep_alloc | apply sep_drewN | apply sep_drew) | exact HS.out)) hb); clear HB HS; have HB := n0_; have HS := n1_; clear n0_ n1_ hb)))
          go_ret
          exact ⟨openN u, q, bad', rfl, Turned.of_sep (mk := fun _ => rdR g (.slice A b.length c) q bad') (F' := fun _ => True) HS.out HB0.out HB.out, by have := HQ2.out; omega, (fun _ => by have := HBM.out; simpa using this), (fun n p' h h2 => by rw [HNN.out] at h; cases h), (fun _ => by have := HBM.out; simpa using this)⟩
      -- 2
      · by_cases hin1 : p + 2 + 1 ≤ 8 * b.length
        · obtain ⟨z, hA1, hne⟩ : ∃ z, atR b ((p + 2 : Nat) : Int) ((1 : Nat) : Int) = (z, 0) ∧ (z == 1) = false := by
            refine ⟨_, atR_ok (by omega) hin1, ?_⟩
            have := bt_lt b (p + 2)
            rw [val_one, beq_eq_false_iff_ne]
            have h1 : ¬ bt b (p + 2) = 1 := fun h => hn ⟨by omega, hin1, h⟩
            omega
          have HA1 := Aside0.mk hA1
          clear hA1
          obtain ⟨u, r1, r2, q, bad', hu, hA2, hx2, hq2, hbm⟩ := at_any b (p + 3) 14 bad (by decide)
          have HA2 := Aside0.mk hA2
          have HX2 := Aside0.mk hx2
          have HU := Aside0.mk hu
          have HQ2 := Aside0.mk hq2
          have HBM := Aside0.mk hbm
          have HXX := Aside0.mk (show ∀ n p', decL b p = some (n, p') → bad' = bad ∧ openN u = n ∧ q = p' ∧ True from fun n p' h => by
            by_cases hin : p + 3 + 14 ≤ 8 * b.length
            · have hd := decL_X (dec_X (b := b) (p := p) (k := 2) HK.out hin)
              rw [hd] at h
              injection h with h
              injection h with h3 h4
              have ha := atR_ok (b := b) (p := p + 3) (wd := 14) (by decide) hin
              rw [HA2.out] at ha
              injection ha with ha1 ha2
              rcases HX2.out with ⟨_, e1, e2, e3⟩ | ⟨e0, _⟩
              · refine ⟨e3, ?_, by rw [e2, ← h4]; rfl, trivial⟩
                rw [← h3]
                congr 1
                rw [ha1] at e1
                exact Int.natCast_inj.1 e1
              · exact absurd ha2 e0
            · rw [decL_Y (k := 2) HK.out hin] at h; cases h)
          have HNN := Aside0.mk (show decL b p = none → bad' = true from fun h => by
            by_cases hin : p + 3 + 14 ≤ 8 * b.length
            · rw [decL_X (dec_X (b := b) (p := p) (k := 2) HK.out hin)] at h; cases h
            · have ha := atR_bad (b := b) (p := p + 3) (wd := 14) (by decide) (by omega)
              rw [HA2.out] at ha
              injection ha with ha1 ha2
              rcases HX2.out with ⟨e0, _⟩ | ⟨_, _, _, e3⟩
              · rw [ha2] at e0; exact absurd e0 (by decide)
              · exact e3)
          clear hin1
          clear hk hn hj hj4 hle hu hA2 hx2 hq2 hbm
          go_wp2_with (first
            | ((with_reducible refine gate_dst (N := 9) rfl ?_); (try (refine gate_guard (by rfl) ?_; dsimp only)); refine goesL_ (some 9) rfl rfl Try.func104 (by kernel_rfl) rfl #[.pointer (some ⟨g, 0, none⟩), .int .i64 1] rfl (by (try simp only [List.map_toArray, List.map_cons, List.map_nil]); first | done | rfl) ?_; (with_reducible refine (rdtake_calls g A c b (p + 2) 1 bad z 0 z (p + 3) bad 1 w0 _ rfl HB.out HS.out.own HR.out HC.out HBY.out HL.out (by decide) (by have := HP.out; omega) HA1.out (.inl ⟨rfl, rfl, by omega, rfl⟩)).mono ?_); rintro e w8 ⟨rfl, ht⟩; refine ⟨_, rfl, ?_⟩; obtain ⟨F_, hs_⟩ := Turned.sep ht (HS.out) rfl; have n0_ := Aside0.mk (Turned.below ht); clear HB HS ht; have HB := n0_; have HS := Aside0.mk hs_; clear n0_ hs_)
            | ((with_reducible refine gate_dst (N := 20) rfl ?_); (try (refine gate_guard (by rfl) ?_; dsimp only)); refine goesL_ (some 20) rfl rfl Try.func104 (by kernel_rfl) rfl #[.pointer (some ⟨g, 0, none⟩), .int .i64 14] rfl (by (try simp only [List.map_toArray, List.map_cons, List.map_nil]); first | done | rfl) ?_; (with_reducible refine (rdtake_calls g A c b (p + 3) 14 bad r1 r2 (u : Int) q bad' 14 w0 _ rfl (below_alloc HB.out _) (sep_alloc HS.out _).own HR.out HC.out HBY.out HL.out (by decide) (by have := HP.out; omega) HA2.out HX2.out).mono ?_); rintro e w9 ⟨rfl, ht⟩; refine ⟨_, rfl, ?_⟩; obtain ⟨F_, hs_⟩ := Turned.sep ht (sep_alloc HS.out _) rfl; have n0_ := Aside0.mk (Turned.below ht); clear HB HS ht; have HB := n0_; have HS := Aside0.mk hs_; clear n0_ hs_)
            | (go_at_call 105; ((with_reducible refine (refopen_n (u : Int) u _ rfl HU.out).mono ?_); rintro e w3 ⟨rfl, hb⟩; have n0_ := Aside0.mk (below_step (by repeat (first | (with_reducible first | exact HB.out | apply below_alloc | apply pw_below_drewN | apply below_drew1) | exact HB.out)) hb); have n1_ := Aside0.mk (Sep.below (by repeat (first | (with_reducible first | exact HS.out | apply sep_alloc | apply sep_drewN | apply sep_drew) | exact HS.out)) hb); clear HB HS; have HB := n0_; have HS := n1_; clear n0_ n1_ hb)))
          go_ret
          exact ⟨openN u, q, bad', rfl, Turned.of_sep (mk := fun _ => rdR g (.slice A b.length c) q bad') (F' := fun _ => True) HS.out HB0.out HB.out, by have := HQ2.out; omega, HBM.out, (fun n p' h h2 => by subst h2; obtain ⟨e1, e2, e3, e4⟩ := HXX.out n p' h; exact ⟨e1, e2, e3⟩), HNN.out⟩
        · have HA1 := Aside0.mk (atR_bad (b := b) (p := p + 2) (wd := 1) (by decide) (by omega))
          obtain ⟨u, r1, r2, q, bad', hu, hA2, hx2, hq2, hbm⟩ := at_any b (p + 2) 14 true (by decide)
          have HA2 := Aside0.mk hA2
          have HX2 := Aside0.mk hx2
          have HU := Aside0.mk hu
          have HQ2 := Aside0.mk hq2
          have HBM := Aside0.mk hbm
          have HNN := Aside0.mk (show decL b p = none from decL_Y (k := 2) HK.out (by show ¬ p + 3 + 14 ≤ _; omega))
          clear hin1
          clear hk hn hj hj4 hle hu hA2 hx2 hq2 hbm
          go_wp2_with (first
            | ((with_reducible refine gate_dst (N := 9) rfl ?_); (try (refine gate_guard (by rfl) ?_; dsimp only)); refine goesL_ (some 9) rfl rfl Try.func104 (by kernel_rfl) rfl #[.pointer (some ⟨g, 0, none⟩), .int .i64 1] rfl (by (try simp only [List.map_toArray, List.map_cons, List.map_nil]); first | done | rfl) ?_; (with_reducible refine (rdtake_calls g A c b (p + 2) 1 bad 0 2 0 (p + 2) true 1 w0 _ rfl HB.out HS.out.own HR.out HC.out HBY.out HL.out (by decide) (by have := HP.out; omega) HA1.out (.inr ⟨by decide, rfl, rfl, rfl⟩)).mono ?_); rintro e w8 ⟨rfl, ht⟩; refine ⟨_, rfl, ?_⟩; obtain ⟨F_, hs_⟩ := Turned.sep ht (HS.out) rfl; have n0_ := Aside0.mk (Turned.below ht); clear HB HS ht; have HB := n0_; have HS := Aside0.mk hs_; clear n0_ hs_)
            | ((with_reducible refine gate_dst (N := 20) rfl ?_); (try (refine gate_guard (by rfl) ?_; dsimp only)); refine goesL_ (some 20) rfl rfl Try.func104 (by kernel_rfl) rfl #[.pointer (some ⟨g, 0, none⟩), .int .i64 14] rfl (by (try simp only [List.map_toArray, List.map_cons, List.map_nil]); first | done | rfl) ?_; (with_reducible refine (rdtake_calls g A c b (p + 2) 14 true r1 r2 (u : Int) q bad' 14 w0 _ rfl (below_alloc HB.out _) (sep_alloc HS.out _).own HR.out HC.out HBY.out HL.out (by decide) (by have := HP.out; omega) HA2.out HX2.out).mono ?_); rintro e w9 ⟨rfl, ht⟩; refine ⟨_, rfl, ?_⟩; obtain ⟨F_, hs_⟩ := Turned.sep ht (sep_alloc HS.out _) rfl; have n0_ := Aside0.mk (Turned.below ht); clear HB HS ht; have HB := n0_; have HS := Aside0.mk hs_; clear n0_ hs_)
            | (go_at_call 105; ((with_reducible refine (refopen_n (u : Int) u _ rfl HU.out).mono ?_); rintro e w3 ⟨rfl, hb⟩; have n0_ := Aside0.mk (below_step (by repeat (first | (with_reducible first | exact HB.out | apply below_alloc | apply pw_below_drewN | apply below_drew1) | exact HB.out)) hb); have n1_ := Aside0.mk (Sep.below (by repeat (first | (with_reducible first | exact HS.out | apply sep_alloc | apply sep_drewN | apply sep_drew) | exact HS.out)) hb); clear HB HS; have HB := n0_; have HS := n1_; clear n0_ n1_ hb)))
          go_ret
          exact ⟨openN u, q, bad', rfl, Turned.of_sep (mk := fun _ => rdR g (.slice A b.length c) q bad') (F' := fun _ => True) HS.out HB0.out HB.out, by have := HQ2.out; omega, (fun _ => by have := HBM.out; simpa using this), (fun n p' h h2 => by rw [HNN.out] at h; cases h), (fun _ => by have := HBM.out; simpa using this)⟩
      -- 3
      · by_cases hin1 : p + 3 + 1 ≤ 8 * b.length
        · obtain ⟨z, hA1, hne⟩ : ∃ z, atR b ((p + 3 : Nat) : Int) ((1 : Nat) : Int) = (z, 0) ∧ (z == 1) = false := by
            refine ⟨_, atR_ok (by omega) hin1, ?_⟩
            have := bt_lt b (p + 3)
            rw [val_one, beq_eq_false_iff_ne]
            have h1 : ¬ bt b (p + 3) = 1 := fun h => hn ⟨by omega, hin1, h⟩
            omega
          have HA1 := Aside0.mk hA1
          clear hA1
          obtain ⟨u, r1, r2, q, bad', hu, hA2, hx2, hq2, hbm⟩ := at_any b (p + 4) 32 bad (by decide)
          have HA2 := Aside0.mk hA2
          have HX2 := Aside0.mk hx2
          have HU := Aside0.mk hu
          have HQ2 := Aside0.mk hq2
          have HBM := Aside0.mk hbm
          have HXX := Aside0.mk (show ∀ n p', decL b p = some (n, p') → bad' = bad ∧ openN u = n ∧ q = p' ∧ True from fun n p' h => by
            by_cases hin : p + 4 + 32 ≤ 8 * b.length
            · have hd := decL_X (dec_X (b := b) (p := p) (k := 3) HK.out hin)
              rw [hd] at h
              injection h with h
              injection h with h3 h4
              have ha := atR_ok (b := b) (p := p + 4) (wd := 32) (by decide) hin
              rw [HA2.out] at ha
              injection ha with ha1 ha2
              rcases HX2.out with ⟨_, e1, e2, e3⟩ | ⟨e0, _⟩
              · refine ⟨e3, ?_, by rw [e2, ← h4]; rfl, trivial⟩
                rw [← h3]
                congr 1
                rw [ha1] at e1
                exact Int.natCast_inj.1 e1
              · exact absurd ha2 e0
            · rw [decL_Y (k := 3) HK.out hin] at h; cases h)
          have HNN := Aside0.mk (show decL b p = none → bad' = true from fun h => by
            by_cases hin : p + 4 + 32 ≤ 8 * b.length
            · rw [decL_X (dec_X (b := b) (p := p) (k := 3) HK.out hin)] at h; cases h
            · have ha := atR_bad (b := b) (p := p + 4) (wd := 32) (by decide) (by omega)
              rw [HA2.out] at ha
              injection ha with ha1 ha2
              rcases HX2.out with ⟨e0, _⟩ | ⟨_, _, _, e3⟩
              · rw [ha2] at e0; exact absurd e0 (by decide)
              · exact e3)
          clear hin1
          clear hk hn hj hj4 hle hu hA2 hx2 hq2 hbm
          go_wp2_with (first
            | ((with_reducible refine gate_dst (N := 9) rfl ?_); (try (refine gate_guard (by rfl) ?_; dsimp only)); refine goesL_ (some 9) rfl rfl Try.func104 (by kernel_rfl) rfl #[.pointer (some ⟨g, 0, none⟩), .int .i64 1] rfl (by (try simp only [List.map_toArray, List.map_cons, List.map_nil]); first | done | rfl) ?_; (with_reducible refine (rdtake_calls g A c b (p + 3) 1 bad z 0 z (p + 4) bad 1 w0 _ rfl HB.out HS.out.own HR.out HC.out HBY.out HL.out (by decide) (by have := HP.out; omega) HA1.out (.inl ⟨rfl, rfl, by omega, rfl⟩)).mono ?_); rintro e w8 ⟨rfl, ht⟩; refine ⟨_, rfl, ?_⟩; obtain ⟨F_, hs_⟩ := Turned.sep ht (HS.out) rfl; have n0_ := Aside0.mk (Turned.below ht); clear HB HS ht; have HB := n0_; have HS := Aside0.mk hs_; clear n0_ hs_)
            | ((with_reducible refine gate_dst (N := 20) rfl ?_); (try (refine gate_guard (by rfl) ?_; dsimp only)); refine goesL_ (some 20) rfl rfl Try.func104 (by kernel_rfl) rfl #[.pointer (some ⟨g, 0, none⟩), .int .i64 32] rfl (by (try simp only [List.map_toArray, List.map_cons, List.map_nil]); first | done | rfl) ?_; (with_reducible refine (rdtake_calls g A c b (p + 4) 32 bad r1 r2 (u : Int) q bad' 32 w0 _ rfl (below_alloc HB.out _) (sep_alloc HS.out _).own HR.out HC.out HBY.out HL.out (by decide) (by have := HP.out; omega) HA2.out HX2.out).mono ?_); rintro e w9 ⟨rfl, ht⟩; refine ⟨_, rfl, ?_⟩; obtain ⟨F_, hs_⟩ := Turned.sep ht (sep_alloc HS.out _) rfl; have n0_ := Aside0.mk (Turned.below ht); clear HB HS ht; have HB := n0_; have HS := Aside0.mk hs_; clear n0_ hs_)
            | (go_at_call 105; ((with_reducible refine (refopen_n (u : Int) u _ rfl HU.out).mono ?_); rintro e w3 ⟨rfl, hb⟩; have n0_ := Aside0.mk (below_step (by repeat (first | (with_reducible first | exact HB.out | apply below_alloc | apply pw_below_drewN | apply below_drew1) | exact HB.out)) hb); have n1_ := Aside0.mk (Sep.below (by repeat (first | (with_reducible first | exact HS.out | apply sep_alloc | apply sep_drewN | apply sep_drew) | exact HS.out)) hb); clear HB HS; have HB := n0_; have HS := n1_; clear n0_ n1_ hb)))
          go_ret
          exact ⟨openN u, q, bad', rfl, Turned.of_sep (mk := fun _ => rdR g (.slice A b.length c) q bad') (F' := fun _ => True) HS.out HB0.out HB.out, by have := HQ2.out; omega, HBM.out, (fun n p' h h2 => by subst h2; obtain ⟨e1, e2, e3, e4⟩ := HXX.out n p' h; exact ⟨e1, e2, e3⟩), HNN.out⟩
        · have HA1 := Aside0.mk (atR_bad (b := b) (p := p + 3) (wd := 1) (by decide) (by omega))
          obtain ⟨u, r1, r2, q, bad', hu, hA2, hx2, hq2, hbm⟩ := at_any b (p + 3) 32 true (by decide)
          have HA2 := Aside0.mk hA2
          have HX2 := Aside0.mk hx2
          have HU := Aside0.mk hu
          have HQ2 := Aside0.mk hq2
          have HBM := Aside0.mk hbm
          have HNN := Aside0.mk (show decL b p = none from decL_Y (k := 3) HK.out (by show ¬ p + 4 + 32 ≤ _; omega))
          clear hin1
          clear hk hn hj hj4 hle hu hA2 hx2 hq2 hbm
          go_wp2_with (first
            | ((with_reducible refine gate_dst (N := 9) rfl ?_); (try (refine gate_guard (by rfl) ?_; dsimp only)); refine goesL_ (some 9) rfl rfl Try.func104 (by kernel_rfl) rfl #[.pointer (some ⟨g, 0, none⟩), .int .i64 1] rfl (by (try simp only [List.map_toArray, List.map_cons, List.map_nil]); first | done | rfl) ?_; (with_reducible refine (rdtake_calls g A c b (p + 3) 1 bad 0 2 0 (p + 3) true 1 w0 _ rfl HB.out HS.out.own HR.out HC.out HBY.out HL.out (by decide) (by have := HP.out; omega) HA1.out (.inr ⟨by decide, rfl, rfl, rfl⟩)).mono ?_); rintro e w8 ⟨rfl, ht⟩; refine ⟨_, rfl, ?_⟩; obtain ⟨F_, hs_⟩ := Turned.sep ht (HS.out) rfl; have n0_ := Aside0.mk (Turned.below ht); clear HB HS ht; have HB := n0_; have HS := Aside0.mk hs_; clear n0_ hs_)
            | ((with_reducible refine gate_dst (N := 20) rfl ?_); (try (refine gate_guard (by rfl) ?_; dsimp only)); refine goesL_ (some 20) rfl rfl Try.func104 (by kernel_rfl) rfl #[.pointer (some ⟨g, 0, none⟩), .int .i64 32] rfl (by (try simp only [List.map_toArray, List.map_cons, List.map_nil]); first | done | rfl) ?_; (with_reducible refine (rdtake_calls g A c b (p + 3) 32 true r1 r2 (u : Int) q bad' 32 w0 _ rfl (below_alloc HB.out _) (sep_alloc HS.out _).own HR.out HC.out HBY.out HL.out (by decide) (by have := HP.out; omega) HA2.out HX2.out).mono ?_); rintro e w9 ⟨rfl, ht⟩; refine ⟨_, rfl, ?_⟩; obtain ⟨F_, hs_⟩ := Turned.sep ht (sep_alloc HS.out _) rfl; have n0_ := Aside0.mk (Turned.below ht); clear HB HS ht; have HB := n0_; have HS := Aside0.mk hs_; clear n0_ hs_)
            | (go_at_call 105; ((with_reducible refine (refopen_n (u : Int) u _ rfl HU.out).mono ?_); rintro e w3 ⟨rfl, hb⟩; have n0_ := Aside0.mk (below_step (by repeat (first | (with_reducible first | exact HB.out | apply below_alloc | apply pw_below_drewN | apply below_drew1) | exact HB.out)) hb); have n1_ := Aside0.mk (Sep.below (by repeat (first | (with_reducible first | exact HS.out | apply sep_alloc | apply sep_drewN | apply sep_drew) | exact HS.out)) hb); clear HB HS; have HB := n0_; have HS := n1_; clear n0_ n1_ hb)))
          go_ret
          exact ⟨openN u, q, bad', rfl, Turned.of_sep (mk := fun _ => rdR g (.slice A b.length c) q bad') (F' := fun _ => True) HS.out HB0.out HB.out, by have := HQ2.out; omega, (fun _ => by have := HBM.out; simpa using this), (fun n p' h h2 => by rw [HNN.out] at h; cases h), (fun _ => by have := HBM.out; simpa using this)⟩
      -- 4
      · have hin1 : True := trivial
        obtain ⟨u, r1, r2, q, bad', hu, hA2, hx2, hq2, hbm⟩ := at_any b (p + 4) 64 bad (by decide)
        have HA2 := Aside0.mk hA2
        have HX2 := Aside0.mk hx2
        have HU := Aside0.mk hu
        have HQ2 := Aside0.mk hq2
        have HBM := Aside0.mk hbm
        have HXX := Aside0.mk (show ∀ n p', decL b p = some (n, p') → bad' = bad ∧ openN u = n ∧ q = p' ∧ True from fun n p' h => by
          by_cases hin : p + 4 + 64 ≤ 8 * b.length
          · have hd := decL_X (dec_X (b := b) (p := p) (k := 4) HK.out hin)
            rw [hd] at h
            injection h with h
            injection h with h3 h4
            have ha := atR_ok (b := b) (p := p + 4) (wd := 64) (by decide) hin
            rw [HA2.out] at ha
            injection ha with ha1 ha2
            rcases HX2.out with ⟨_, e1, e2, e3⟩ | ⟨e0, _⟩
            · refine ⟨e3, ?_, by rw [e2, ← h4]; rfl, trivial⟩
              rw [← h3]
              congr 1
              rw [ha1] at e1
              exact Int.natCast_inj.1 e1
            · exact absurd ha2 e0
          · rw [decL_Y (k := 4) HK.out hin] at h; cases h)
        have HNN := Aside0.mk (show decL b p = none → bad' = true from fun h => by
          by_cases hin : p + 4 + 64 ≤ 8 * b.length
          · rw [decL_X (dec_X (b := b) (p := p) (k := 4) HK.out hin)] at h; cases h
          · have ha := atR_bad (b := b) (p := p + 4) (wd := 64) (by decide) (by omega)
            rw [HA2.out] at ha
            injection ha with ha1 ha2
            rcases HX2.out with ⟨e0, _⟩ | ⟨_, _, _, e3⟩
            · rw [ha2] at e0; exact absurd e0 (by decide)
            · exact e3)
        clear hin1
        clear hk hn hj hj4 hle hu hA2 hx2 hq2 hbm
        go_wp2_with (first
          | ((with_reducible refine gate_dst (N := 20) rfl ?_); (try (refine gate_guard (by rfl) ?_; dsimp only)); refine goesL_ (some 20) rfl rfl Try.func104 (by kernel_rfl) rfl #[.pointer (some ⟨g, 0, none⟩), .int .i64 64] rfl (by (try simp only [List.map_toArray, List.map_cons, List.map_nil]); first | done | rfl) ?_; (with_reducible refine (rdtake_calls g A c b (p + 4) 64 bad r1 r2 (u : Int) q bad' 64 w0 _ rfl (below_alloc HB.out _) (sep_alloc HS.out _).own HR.out HC.out HBY.out HL.out (by decide) (by have := HP.out; omega) HA2.out HX2.out).mono ?_); rintro e w9 ⟨rfl, ht⟩; refine ⟨_, rfl, ?_⟩; obtain ⟨F_, hs_⟩ := Turned.sep ht (sep_alloc HS.out _) rfl; have n0_ := Aside0.mk (Turned.below ht); clear HB HS ht; have HB := n0_; have HS := Aside0.mk hs_; clear n0_ hs_)
          | (go_at_call 105; ((with_reducible refine (refopen_n (u : Int) u _ rfl HU.out).mono ?_); rintro e w3 ⟨rfl, hb⟩; have n0_ := Aside0.mk (below_step (by repeat (first | (with_reducible first | exact HB.out | apply below_alloc | apply pw_below_drewN | apply below_drew1) | exact HB.out)) hb); have n1_ := Aside0.mk (Sep.below (by repeat (first | (with_reducible first | exact HS.out | apply sep_alloc | apply sep_drewN | apply sep_drew) | exact HS.out)) hb); clear HB HS; have HB := n0_; have HS := n1_; clear n0_ n1_ hb)))
        go_ret
        exact ⟨openN u, q, bad', rfl, Turned.of_sep (mk := fun _ => rdR g (.slice A b.length c) q bad') (F' := fun _ => True) HS.out HB0.out HB.out, by have := HQ2.out; omega, HBM.out, (fun n p' h h2 => by subst h2; obtain ⟨e1, e2, e3, e4⟩ := HXX.out n p' h; exact ⟨e1, e2, e3⟩), HNN.out⟩
end Go.Proofs.Ythkpnnbjcendcaa.Sc
