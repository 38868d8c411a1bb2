/- What the law leans on, part 9: Rtm, Gc, Spp, Pst, Rnu. -/
import Derived.Test.YthkpnnbjcendcaaQd8
set_option linter.unusedVariables false
set_option linter.unusedSimpArgs false
namespace SzQd9
theorem sA_ {α : Type} {l : List α} {i : Nat} {a : α} : l.toArray.setIfInBounds i a = (l.set i a).toArray := List.setIfInBounds_toArray ..
theorem sB_ {α : Type} {x : α} {l : List α} {a : α} : (x :: l).set 0 a = a :: l := rfl
theorem sC_ {α : Type} {x : α} {l : List α} {n : Nat} {a : α} : (x :: l).set (n + 1) a = x :: l.set n a := rfl
end SzQd9
open SzQd9
section
open Go.RowKit Go.Proofs.Ythkpnnbjcendcaa.X Go.Proofs.Ythkpnnbjcendcaa.Pl Go.Proofs.Ythkpnnbjcendcaa.Sp Go.Proofs.Ythkpnnbjcendcaa.Pure Go.Proofs.YthkpnnbjcendcaaW.PrintWords Go.Proofs.YthkpnnbjcendcaaW.PrintLast Go.Proofs.YthkpnnbjcendcaaW.PrintMore
namespace Go.Proofs.Ythkpnnbjcendcaa.Sc
theorem refopen_n (ui : Int) (u : Nat) (w : World) (hu : ui = (u : Int)) (h : u < 2 ^ 64) : Calls Try.prog 105 #[.int .u64 ui] w fun e w' => e = .returned (.int .i64 (openN u)) ∧ Below w.heap.size w w' := by
 subst hu
 refine (marigraphref01_Open.calls _ _ w (ref_open_f h)).mono ?_
 rintro e w' ⟨rfl, hd⟩
 exact ⟨rfl, hd.below⟩
theorem decL_X {b : List Int} {p k u q : Nat} (h : decM b p = some (k, u, q)) : decL b p = some (openN u, q) := by
 unfold decL
 rw [h]
theorem decL_Y {b : List Int} {p k : Nat} (hk : onesAt b p = k) (h : ¬ p + headW k + wid k ≤ 8 * b.length) : decL b p = none := by
 unfold decL decM
 rw [hk, if_neg h]
theorem at_any (b : List Int) (p wd : Nat) (bad : Bool) (hw : wd ≤ 64) : ∃ (u : Nat) (r1 r2 : Int) (q : Nat) (bad' : Bool), u < 2 ^ 64 ∧ atR b (p : Int) (wd : Int) = (r1, r2) ∧ (r2 = 0 ∧ (u : Int) = r1 ∧ q = p + wd ∧ bad' = bad ∨ r2 ≠ 0 ∧ (u : Int) = 0 ∧ q = p ∧ bad' = true) ∧ q ≤ p + wd ∧ (bad = true → bad' = true) := by
 by_cases h : p + wd ≤ 8 * b.length
 ·exact ⟨val b p wd, _, _, p + wd, bad, Nat.lt_of_lt_of_le (val_lt b p wd) (Nat.pow_le_pow_right (by decide) hw), atR_ok hw h, .inl ⟨rfl, rfl, rfl, rfl⟩, Nat.le_refl _, id⟩
 ·exact ⟨0, _, _, p, true, by decide, atR_bad hw (by omega), .inr ⟨by decide, rfl, rfl, rfl⟩, Nat.le_add_right _ _, fun _ => rfl⟩
set_option maxHeartbeats 16000000 in
set_option maxRecDepth 100000 in
theorem rdmark_calls (g : Nat) (A : Option Addr) (c : Nat) (b : List Int) (p : Nat) (bad : Bool) (w0 w : World) (hB : Below w0.heap.size w0 w) (hO : Own w0.heap.size w (rdR g (.slice A b.length c) p bad)) (hr : Kd.C (Kd.int .u8) w0 A b.length b) (hc : b.length ≤ c) (hby : Byt b) (hl : b.length < 1000000) (hp : p < 900000000) :
  Calls Try.prog 80 #[.pointer (some ⟨g, 0, none⟩)] w fun e w' => MarkR (rdR g (.slice A b.length c)) g (decL b p) p bad w0 w e w' := by
 have HB0 := Aside0.mk hB
 have HB := Aside0.mk hB
 have HS := Aside0.mk (Sep.start hO)
 have HR := Aside0.mk hr
 have HC := Aside0.mk hc
 have HBY := Aside0.mk hby
 have HL := Aside0.mk hl
 have HP := Aside0.mk hp
 clear hB hO hr hc hby hl hp
 go_enter Try.func80, Try.ntmps80
 go_wp2
 go_loopg [3] 4 (fun kq v3 w' => ∃ (j : Nat), v3 = .int .i64 (j : Int) ∧ Aside0 (kq + j = 4 ∧ j ≤ onesAt b p) ∧ Aside0 (Sep w0.heap.size w' [rdR g (.slice A b.length c) (p + j) bad, frameR w0.heap.size w (rdR g (.slice A b.length c) p bad).foot]) ∧ Aside0 (Below w0.heap.size w0 w'))
 case atStart => exact ⟨0, rfl, ⟨by omega, Nat.zero_le _⟩, HS, HB⟩
 case round =>
  clear HS HB
  obtain ⟨j, rfl, HI, HS, HB⟩ := hrel
  have hle := HI.out.2
  by_cases hj : j < onesAt b p
  ·have hn := (ones_next hle).1 hj
   have HA := Aside0.mk (show atR b ((p + j : Nat) : Int) ((1 : Nat) : Int) = (1, 0) by rw [atR_ok (by omega) (by omega), val_one, hn.2.2]; rfl)
   have c1b : decide ((j : Int) < 4) = true := decide_eq_true (by omega)
   have c1n : decide (j < 4) = true := decide_eq_true hn.1
   have hnx : wrap64 ((j : Int) + 1) = ((j + 1 : Nat) : Int) := by rw [w64 (by omega) (by omega)]; simp
   obtain ⟨k1, rfl⟩ : ∃ q, gk = q + 1 := ⟨gk - 1, by have := HI.out; omega⟩
   have HX := Aside0.mk hnx
   have HJ := Aside0.mk hj
   have HN4 := Aside0.mk hn.1
   clear hnx hn hj hle
   go_wp2_with (first
    | ((with_reducible refine gate_dst (N := 9) rfl ?_); (try (refine gate_guard (by rfl) ?_; dsimp only)); refine goesL_ (some 9) rfl rfl Try.func104 (by kernel_rfl) rfl #[.pointer (some ⟨g, 0, none⟩), .int .i64 1] rfl (by (try simp only [List.map_toArray, List.map_cons, List.map_nil]); first | done | rfl) ?_; (with_reducible refine (rdtake_calls g A c b (p + j) 1 bad 1 0 1 (p + (j + 1)) bad 1 w0 _ rfl HB.out HS.out.own HR.out HC.out HBY.out HL.out (by omega) (by have := HP.out; have := HN4.out; omega) HA.out (.inl ⟨rfl, rfl, by omega, rfl⟩)).mono ?_); rintro e w8 ⟨rfl, ht⟩; refine ⟨_, rfl, ?_⟩; obtain ⟨F_, hs_⟩ := Turned.sep ht (HS.out) rfl; have n0_ := Aside0.mk (Turned.below ht); clear HB HS ht; have HB := n0_; have HS := Aside0.mk hs_; clear n0_ hs_))
   go_roundg k1
   case measure => omega
   case rel => exact ⟨j + 1, (by first | rfl | rw [HX.out]), ⟨by have := HI.out; omega, HJ.out⟩, HS, HB⟩
  ·have hk : onesAt b p = j := by omega
   have hn := mt (ones_next hle).2 hj
   have hj4 := ones_le b p
   rw [hk] at hj4
   have HK := Aside0.mk hk
   rcases (by omega : j = 0 ∨ j = 1 ∨ j = 2 ∨ j = 3 ∨ j = 4) with rfl | rfl | rfl | rfl | rfl
   ·by_cases hin1 : p + 0 + 1 ≤ 8 * b.length
    ·obtain ⟨z, hA1, hne⟩ : ∃ z, atR b ((p + 0 : Nat) : Int) ((1 : Nat) : Int) = (z, 0) ∧ (z == 1) = false := by
      refine ⟨_, atR_ok (by omega) hin1, ?_⟩
      have := bt_lt b (p + 0)
      rw [val_one, beq_eq_false_iff_ne]
      have h1 : ¬ bt b (p + 0) = 1 := fun h => hn ⟨by omega, hin1, h⟩
      omega
     have HA1 := Aside0.mk hA1
     clear hA1
     obtain ⟨u, r1, r2, q, bad', hu, hA2, hx2, hq2, hbm⟩ := at_any b (p + 1) 0 bad (by decide)
     have HA2 := Aside0.mk hA2
     have HX2 := Aside0.mk hx2
     have HU := Aside0.mk hu
     have HQ2 := Aside0.mk hq2
     have HBM := Aside0.mk hbm
     have HXX := Aside0.mk (show ∀ n p', decL b p = some (n, p') → bad' = bad ∧ openN u = n ∧ q = p' ∧ True from fun n p' h => by
      by_cases hin : p + 1 + 0 ≤ 8 * b.length
      ·have hd := decL_X (dec_X (b := b) (p := p) (k := 0) HK.out hin)
       rw [hd] at h
       injection h with h
       injection h with h3 h4
       have ha := atR_ok (b := b) (p := p + 1) (wd := 0) (by decide) hin
       rw [HA2.out] at ha
       injection ha with ha1 ha2
       rcases HX2.out with ⟨_, e1, e2, e3⟩ | ⟨e0, _⟩
       ·refine ⟨e3, ?_, by rw [e2, ← h4]; rfl, trivial⟩
        rw [← h3]
        congr 1
        rw [ha1] at e1
        exact Int.natCast_inj.1 e1
       ·exact absurd ha2 e0
      ·rw [decL_Y (k := 0) HK.out hin] at h; cases h)
     have HNN := Aside0.mk (show decL b p = none → bad' = true from fun h => by
      by_cases hin : p + 1 + 0 ≤ 8 * b.length
      ·rw [decL_X (dec_X (b := b) (p := p) (k := 0) HK.out hin)] at h; cases h
      ·have ha := atR_bad (b := b) (p := p + 1) (wd := 0) (by decide) (by omega)
       rw [HA2.out] at ha
       injection ha with ha1 ha2
       rcases HX2.out with ⟨e0, _⟩ | ⟨_, _, _, e3⟩
       ·rw [ha2] at e0; exact absurd e0 (by decide)
       ·exact e3)
     clear hin1
     clear hk hn hj hj4 hle hu hA2 hx2 hq2 hbm
     go_wp2_with (first
      | ((with_reducible refine gate_dst (N := 9) rfl ?_); (try (refine gate_guard (by rfl) ?_; dsimp only)); refine goesL_ (some 9) rfl rfl Try.func104 (by kernel_rfl) rfl #[.pointer (some ⟨g, 0, none⟩), .int .i64 1] rfl (by (try simp only [List.map_toArray, List.map_cons, List.map_nil]); first | done | rfl) ?_; (with_reducible refine (rdtake_calls g A c b (p + 0) 1 bad z 0 z (p + 1) bad 1 w0 _ rfl HB.out HS.out.own HR.out HC.out HBY.out HL.out (by decide) (by have := HP.out; omega) HA1.out (.inl ⟨rfl, rfl, by omega, rfl⟩)).mono ?_); rintro e w8 ⟨rfl, ht⟩; refine ⟨_, rfl, ?_⟩; obtain ⟨F_, hs_⟩ := Turned.sep ht (HS.out) rfl; have n0_ := Aside0.mk (Turned.below ht); clear HB HS ht; have HB := n0_; have HS := Aside0.mk hs_; clear n0_ hs_)
      | ((with_reducible refine gate_dst (N := 20) rfl ?_); (try (refine gate_guard (by rfl) ?_; dsimp only)); refine goesL_ (some 20) rfl rfl Try.func104 (by kernel_rfl) rfl #[.pointer (some ⟨g, 0, none⟩), .int .i64 0] rfl (by (try simp only [List.map_toArray, List.map_cons, List.map_nil]); first | done | rfl) ?_; (with_reducible refine (rdtake_calls g A c b (p + 1) 0 bad r1 r2 (u : Int) q bad' 0 w0 _ rfl (below_alloc HB.out _) (sep_alloc HS.out _).own HR.out HC.out HBY.out HL.out (by decide) (by have := HP.out; omega) HA2.out HX2.out).mono ?_); rintro e w9 ⟨rfl, ht⟩; refine ⟨_, rfl, ?_⟩; obtain ⟨F_, hs_⟩ := Turned.sep ht (sep_alloc HS.out _) rfl; have n0_ := Aside0.mk (Turned.below ht); clear HB HS ht; have HB := n0_; have HS := Aside0.mk hs_; clear n0_ hs_)
      | (go_at_call 105; ((with_reducible refine (refopen_n (u : Int) u _ rfl HU.out).mono ?_); rintro e w3 ⟨rfl, hb⟩; have n0_ := Aside0.mk (below_step (by repeat (first | exact HB.out | apply below_alloc | apply pw_below_drewN | apply below_drew1)) hb); have n1_ := Aside0.mk (Sep.below (by repeat (first | exact HS.out | apply sep_alloc | apply sep_drewN | apply sep_drew)) hb); clear HB HS; have HB := n0_; have HS := n1_; clear n0_ n1_ hb)))
     go_ret
     exact ⟨openN u, q, bad', rfl, Turned.of_sep (mk := fun _ => rdR g (.slice A b.length c) q bad') (F' := fun _ => True) HS.out HB0.out HB.out, by have := HQ2.out; omega, HBM.out, (fun n p' h h2 => by subst h2; obtain ⟨e1, e2, e3, e4⟩ := HXX.out n p' h; exact ⟨e1, e2, e3⟩), HNN.out⟩
    ·have HA1 := Aside0.mk (atR_bad (b := b) (p := p + 0) (wd := 1) (by decide) (by omega))
     obtain ⟨u, r1, r2, q, bad', hu, hA2, hx2, hq2, hbm⟩ := at_any b (p + 0) 0 true (by decide)
     have HA2 := Aside0.mk hA2
     have HX2 := Aside0.mk hx2
     have HU := Aside0.mk hu
     have HQ2 := Aside0.mk hq2
     have HBM := Aside0.mk hbm
     have HNN := Aside0.mk (show decL b p = none from decL_Y (k := 0) HK.out (by show ¬ p + 1 + 0 ≤ _; omega))
     clear hin1
     clear hk hn hj hj4 hle hu hA2 hx2 hq2 hbm
     go_wp2_with (first
      | ((with_reducible refine gate_dst (N := 9) rfl ?_); (try (refine gate_guard (by rfl) ?_; dsimp only)); refine goesL_ (some 9) rfl rfl Try.func104 (by kernel_rfl) rfl #[.pointer (some ⟨g, 0, none⟩), .int .i64 1] rfl (by (try simp only [List.map_toArray, List.map_cons, List.map_nil]); first | done | rfl) ?_; (with_reducible refine (rdtake_calls g A c b (p + 0) 1 bad 0 2 0 (p + 0) true 1 w0 _ rfl HB.out HS.out.own HR.out HC.out HBY.out HL.out (by decide) (by have := HP.out; omega) HA1.out (.inr ⟨by decide, rfl, rfl, rfl⟩)).mono ?_); rintro e w8 ⟨rfl, ht⟩; refine ⟨_, rfl, ?_⟩; obtain ⟨F_, hs_⟩ := Turned.sep ht (HS.out) rfl; have n0_ := Aside0.mk (Turned.below ht); clear HB HS ht; have HB := n0_; have HS := Aside0.mk hs_; clear n0_ hs_)
      | ((with_reducible refine gate_dst (N := 20) rfl ?_); (try (refine gate_guard (by rfl) ?_; dsimp only)); refine goesL_ (some 20) rfl rfl Try.func104 (by kernel_rfl) rfl #[.pointer (some ⟨g, 0, none⟩), .int .i64 0] rfl (by (try simp only [List.map_toArray, List.map_cons, List.map_nil]); first | done | rfl) ?_; (with_reducible refine (rdtake_calls g A c b (p + 0) 0 true r1 r2 (u : Int) q bad' 0 w0 _ rfl (below_alloc HB.out _) (sep_alloc HS.out _).own HR.out HC.out HBY.out HL.out (by decide) (by have := HP.out; omega) HA2.out HX2.out).mono ?_); rintro e w9 ⟨rfl, ht⟩; refine ⟨_, rfl, ?_⟩; obtain ⟨F_, hs_⟩ := Turned.sep ht (sep_alloc HS.out _) rfl; have n0_ := Aside0.mk (Turned.below ht); clear HB HS ht; have HB := n0_; have HS := Aside0.mk hs_; clear n0_ hs_)
      | (go_at_call 105; ((with_reducible refine (refopen_n (u : Int) u _ rfl HU.out).mono ?_); rintro e w3 ⟨rfl, hb⟩; have n0_ := Aside0.mk (below_step (by repeat (first | exact HB.out | apply below_alloc | apply pw_below_drewN | apply below_drew1)) hb); have n1_ := Aside0.mk (Sep.below (by repeat (first | exact HS.out | apply sep_alloc | apply sep_drewN | apply sep_drew)) hb); clear HB HS; have HB := n0_; have HS := n1_; clear n0_ n1_ hb)))
     go_ret
     exact ⟨openN u, q, bad', rfl, Turned.of_sep (mk := fun _ => rdR g (.slice A b.length c) q bad') (F' := fun _ => True) HS.out HB0.out HB.out, by have := HQ2.out; omega, (fun _ => by have := HBM.out; simpa using this), (fun n p' h h2 => by rw [HNN.out] at h; cases h), (fun _ => by have := HBM.out; simpa using this)⟩
   ·by_cases hin1 : p + 1 + 1 ≤ 8 * b.length
    ·obtain ⟨z, hA1, hne⟩ : ∃ z, atR b ((p + 1 : Nat) : Int) ((1 : Nat) : Int) = (z, 0) ∧ (z == 1) = false := by
      refine ⟨_, atR_ok (by omega) hin1, ?_⟩
      have := bt_lt b (p + 1)
      rw [val_one, beq_eq_false_iff_ne]
      have h1 : ¬ bt b (p + 1) = 1 := fun h => hn ⟨by omega, hin1, h⟩
      omega
     have HA1 := Aside0.mk hA1
     clear hA1
     obtain ⟨u, r1, r2, q, bad', hu, hA2, hx2, hq2, hbm⟩ := at_any b (p + 2) 7 bad (by decide)
     have HA2 := Aside0.mk hA2
     have HX2 := Aside0.mk hx2
     have HU := Aside0.mk hu
     have HQ2 := Aside0.mk hq2
     have HBM := Aside0.mk hbm
     have HXX := Aside0.mk (show ∀ n p', decL b p = some (n, p') → bad' = bad ∧ openN u = n ∧ q = p' ∧ True from fun n p' h => by
      by_cases hin : p + 2 + 7 ≤ 8 * b.length
      ·have hd := decL_X (dec_X (b := b) (p := p) (k := 1) HK.out hin)
       rw [hd] at h
       injection h with h
       injection h with h3 h4
       have ha := atR_ok (b := b) (p := p + 2) (wd := 7) (by decide) hin
       rw [HA2.out] at ha
       injection ha with ha1 ha2
       rcases HX2.out with ⟨_, e1, e2, e3⟩ | ⟨e0, _⟩
       ·refine ⟨e3, ?_, by rw [e2, ← h4]; rfl, trivial⟩
        rw [← h3]
        congr 1
        rw [ha1] at e1
        exact Int.natCast_inj.1 e1
       ·exact absurd ha2 e0
      ·rw [decL_Y (k := 1) HK.out hin] at h; cases h)
     have HNN := Aside0.mk (show decL b p = none → bad' = true from fun h => by
      by_cases hin : p + 2 + 7 ≤ 8 * b.length
      ·rw [decL_X (dec_X (b := b) (p := p) (k := 1) HK.out hin)] at h; cases h
      ·have ha := atR_bad (b := b) (p := p + 2) (wd := 7) (by decide) (by omega)
       rw [HA2.out] at ha
       injection ha with ha1 ha2
       rcases HX2.out with ⟨e0, _⟩ | ⟨_, _, _, e3⟩
       ·rw [ha2] at e0; exact absurd e0 (by decide)
       ·exact e3)
     clear hin1
     clear hk hn hj hj4 hle hu hA2 hx2 hq2 hbm
     go_wp2_with (first
      | ((with_reducible refine gate_dst (N := 9) rfl ?_); (try (refine gate_guard (by rfl) ?_; dsimp only)); refine goesL_ (some 9) rfl rfl Try.func104 (by kernel_rfl) rfl #[.pointer (some ⟨g, 0, none⟩), .int .i64 1] rfl (by (try simp only [List.map_toArray, List.map_cons, List.map_nil]); first | done | rfl) ?_; (with_reducible refine (rdtake_calls g A c b (p + 1) 1 bad z 0 z (p + 2) bad 1 w0 _ rfl HB.out HS.out.own HR.out HC.out HBY.out HL.out (by decide) (by have := HP.out; omega) HA1.out (.inl ⟨rfl, rfl, by omega, rfl⟩)).mono ?_); rintro e w8 ⟨rfl, ht⟩; refine ⟨_, rfl, ?_⟩; obtain ⟨F_, hs_⟩ := Turned.sep ht (HS.out) rfl; have n0_ := Aside0.mk (Turned.below ht); clear HB HS ht; have HB := n0_; have HS := Aside0.mk hs_; clear n0_ hs_)
      | ((with_reducible refine gate_dst (N := 20) rfl ?_); (try (refine gate_guard (by rfl) ?_; dsimp only)); refine goesL_ (some 20) rfl rfl Try.func104 (by kernel_rfl) rfl #[.pointer (some ⟨g, 0, none⟩), .int .i64 7] rfl (by (try simp only [List.map_toArray, List.map_cons, List.map_nil]); first | done | rfl) ?_; (with_reducible refine (rdtake_calls g A c b (p + 2) 7 bad r1 r2 (u : Int) q bad' 7 w0 _ rfl (below_alloc HB.out _) (sep_alloc HS.out _).own HR.out HC.out HBY.out HL.out (by decide) (by have := HP.out; omega) HA2.out HX2.out).mono ?_); rintro e w9 ⟨rfl, ht⟩; refine ⟨_, rfl, ?_⟩; obtain ⟨F_, hs_⟩ := Turned.sep ht (sep_alloc HS.out _) rfl; have n0_ := Aside0.mk (Turned.below ht); clear HB HS ht; have HB := n0_; have HS := Aside0.mk hs_; clear n0_ hs_)
      | (go_at_call 105; ((with_reducible refine (refopen_n (u : Int) u _ rfl HU.out).mono ?_); rintro e w3 ⟨rfl, hb⟩; have n0_ := Aside0.mk (below_step (by repeat (first | exact HB.out | apply below_alloc | apply pw_below_drewN | apply below_drew1)) hb); have n1_ := Aside0.mk (Sep.below (by repeat (first | exact HS.out | apply sep_alloc | apply sep_drewN | apply sep_drew)) hb); clear HB HS; have HB := n0_; have HS := n1_; clear n0_ n1_ hb)))
     go_ret
     exact ⟨openN u, q, bad', rfl, Turned.of_sep (mk := fun _ => rdR g (.slice A b.length c) q bad') (F' := fun _ => True) HS.out HB0.out HB.out, by have := HQ2.out; omega, HBM.out, (fun n p' h h2 => by subst h2; obtain ⟨e1, e2, e3, e4⟩ := HXX.out n p' h; exact ⟨e1, e2, e3⟩), HNN.out⟩
    ·have HA1 := Aside0.mk (atR_bad (b := b) (p := p + 1) (wd := 1) (by decide) (by omega))
     obtain ⟨u, r1, r2, q, bad', hu, hA2, hx2, hq2, hbm⟩ := at_any b (p + 1) 7 true (by decide)
     have HA2 := Aside0.mk hA2
     have HX2 := Aside0.mk hx2
     have HU := Aside0.mk hu
     have HQ2 := Aside0.mk hq2
     have HBM := Aside0.mk hbm
     have HNN := Aside0.mk (show decL b p = none from decL_Y (k := 1) HK.out (by show ¬ p + 2 + 7 ≤ _; omega))
     clear hin1
     clear hk hn hj hj4 hle hu hA2 hx2 hq2 hbm
     go_wp2_with (first
      | ((with_reducible refine gate_dst (N := 9) rfl ?_); (try (refine gate_guard (by rfl) ?_; dsimp only)); refine goesL_ (some 9) rfl rfl Try.func104 (by kernel_rfl) rfl #[.pointer (some ⟨g, 0, none⟩), .int .i64 1] rfl (by (try simp only [List.map_toArray, List.map_cons, List.map_nil]); first | done | rfl) ?_; (with_reducible refine (rdtake_calls g A c b (p + 1) 1 bad 0 2 0 (p + 1) true 1 w0 _ rfl HB.out HS.out.own HR.out HC.out HBY.out HL.out (by decide) (by have := HP.out; omega) HA1.out (.inr ⟨by decide, rfl, rfl, rfl⟩)).mono ?_); rintro e w8 ⟨rfl, ht⟩; refine ⟨_, rfl, ?_⟩; obtain ⟨F_, hs_⟩ := Turned.sep ht (HS.out) rfl; have n0_ := Aside0.mk (Turned.below ht); clear HB HS ht; have HB := n0_; have HS := Aside0.mk hs_; clear n0_ hs_)
      | ((with_reducible refine gate_dst (N := 20) rfl ?_); (try (refine gate_guard (by rfl) ?_; dsimp only)); refine goesL_ (some 20) rfl rfl Try.func104 (by kernel_rfl) rfl #[.pointer (some ⟨g, 0, none⟩), .int .i64 7] rfl (by (try simp only [List.map_toArray, List.map_cons, List.map_nil]); first | done | rfl) ?_; (with_reducible refine (rdtake_calls g A c b (p + 1) 7 true r1 r2 (u : Int) q bad' 7 w0 _ rfl (below_alloc HB.out _) (sep_alloc HS.out _).own HR.out HC.out HBY.out HL.out (by decide) (by have := HP.out; omega) HA2.out HX2.out).mono ?_); rintro e w9 ⟨rfl, ht⟩; refine ⟨_, rfl, ?_⟩; obtain ⟨F_, hs_⟩ := Turned.sep ht (sep_alloc HS.out _) rfl; have n0_ := Aside0.mk (Turned.below ht); clear HB HS ht; have HB := n0_; have HS := Aside0.mk hs_; clear n0_ hs_)
      | (go_at_call 105; ((with_reducible refine (refopen_n (u : Int) u _ rfl HU.out).mono ?_); rintro e w3 ⟨rfl, hb⟩; have n0_ := Aside0.mk (below_step (by repeat (first | exact HB.out | apply below_alloc | apply pw_below_drewN | apply below_drew1)) hb); have n1_ := Aside0.mk (Sep.below (by repeat (first | exact HS.out | apply sep_alloc | apply sep_drewN | apply sep_drew)) hb); clear HB HS; have HB := n0_; have HS := n1_; clear n0_ n1_ hb)))
     go_ret
     exact ⟨openN u, q, bad', rfl, Turned.of_sep (mk := fun _ => rdR g (.slice A b.length c) q bad') (F' := fun _ => True) HS.out HB0.out HB.out, by have := HQ2.out; omega, (fun _ => by have := HBM.out; simpa using this), (fun n p' h h2 => by rw [HNN.out] at h; cases h), (fun _ => by have := HBM.out; simpa using this)⟩
   ·by_cases hin1 : p + 2 + 1 ≤ 8 * b.length
    ·obtain ⟨z, hA1, hne⟩ : ∃ z, atR b ((p + 2 : Nat) : Int) ((1 : Nat) : Int) = (z, 0) ∧ (z == 1) = false := by
      refine ⟨_, atR_ok (by omega) hin1, ?_⟩
      have := bt_lt b (p + 2)
      rw [val_one, beq_eq_false_iff_ne]
      have h1 : ¬ bt b (p + 2) = 1 := fun h => hn ⟨by omega, hin1, h⟩
      omega
     have HA1 := Aside0.mk hA1
     clear hA1
     obtain ⟨u, r1, r2, q, bad', hu, hA2, hx2, hq2, hbm⟩ := at_any b (p + 3) 14 bad (by decide)
     have HA2 := Aside0.mk hA2
     have HX2 := Aside0.mk hx2
     have HU := Aside0.mk hu
     have HQ2 := Aside0.mk hq2
     have HBM := Aside0.mk hbm
     have HXX := Aside0.mk (show ∀ n p', decL b p = some (n, p') → bad' = bad ∧ openN u = n ∧ q = p' ∧ True from fun n p' h => by
      by_cases hin : p + 3 + 14 ≤ 8 * b.length
      ·have hd := decL_X (dec_X (b := b) (p := p) (k := 2) HK.out hin)
       rw [hd] at h
       injection h with h
       injection h with h3 h4
       have ha := atR_ok (b := b) (p := p + 3) (wd := 14) (by decide) hin
       rw [HA2.out] at ha
       injection ha with ha1 ha2
       rcases HX2.out with ⟨_, e1, e2, e3⟩ | ⟨e0, _⟩
       ·refine ⟨e3, ?_, by rw [e2, ← h4]; rfl, trivial⟩
        rw [← h3]
        congr 1
        rw [ha1] at e1
        exact Int.natCast_inj.1 e1
       ·exact absurd ha2 e0
      ·rw [decL_Y (k := 2) HK.out hin] at h; cases h)
     have HNN := Aside0.mk (show decL b p = none → bad' = true from fun h => by
      by_cases hin : p + 3 + 14 ≤ 8 * b.length
      ·rw [decL_X (dec_X (b := b) (p := p) (k := 2) HK.out hin)] at h; cases h
      ·have ha := atR_bad (b := b) (p := p + 3) (wd := 14) (by decide) (by omega)
       rw [HA2.out] at ha
       injection ha with ha1 ha2
       rcases HX2.out with ⟨e0, _⟩ | ⟨_, _, _, e3⟩
       ·rw [ha2] at e0; exact absurd e0 (by decide)
       ·exact e3)
     clear hin1
     clear hk hn hj hj4 hle hu hA2 hx2 hq2 hbm
     go_wp2_with (first
      | ((with_reducible refine gate_dst (N := 9) rfl ?_); (try (refine gate_guard (by rfl) ?_; dsimp only)); refine goesL_ (some 9) rfl rfl Try.func104 (by kernel_rfl) rfl #[.pointer (some ⟨g, 0, none⟩), .int .i64 1] rfl (by (try simp only [List.map_toArray, List.map_cons, List.map_nil]); first | done | rfl) ?_; (with_reducible refine (rdtake_calls g A c b (p + 2) 1 bad z 0 z (p + 3) bad 1 w0 _ rfl HB.out HS.out.own HR.out HC.out HBY.out HL.out (by decide) (by have := HP.out; omega) HA1.out (.inl ⟨rfl, rfl, by omega, rfl⟩)).mono ?_); rintro e w8 ⟨rfl, ht⟩; refine ⟨_, rfl, ?_⟩; obtain ⟨F_, hs_⟩ := Turned.sep ht (HS.out) rfl; have n0_ := Aside0.mk (Turned.below ht); clear HB HS ht; have HB := n0_; have HS := Aside0.mk hs_; clear n0_ hs_)
      | ((with_reducible refine gate_dst (N := 20) rfl ?_); (try (refine gate_guard (by rfl) ?_; dsimp only)); refine goesL_ (some 20) rfl rfl Try.func104 (by kernel_rfl) rfl #[.pointer (some ⟨g, 0, none⟩), .int .i64 14] rfl (by (try simp only [List.map_toArray, List.map_cons, List.map_nil]); first | done | rfl) ?_; (with_reducible refine (rdtake_calls g A c b (p + 3) 14 bad r1 r2 (u : Int) q bad' 14 w0 _ rfl (below_alloc HB.out _) (sep_alloc HS.out _).own HR.out HC.out HBY.out HL.out (by decide) (by have := HP.out; omega) HA2.out HX2.out).mono ?_); rintro e w9 ⟨rfl, ht⟩; refine ⟨_, rfl, ?_⟩; obtain ⟨F_, hs_⟩ := Turned.sep ht (sep_alloc HS.out _) rfl; have n0_ := Aside0.mk (Turned.below ht); clear HB HS ht; have HB := n0_; have HS := Aside0.mk hs_; clear n0_ hs_)
      | (go_at_call 105; ((with_reducible refine (refopen_n (u : Int) u _ rfl HU.out).mono ?_); rintro e w3 ⟨rfl, hb⟩; have n0_ := Aside0.mk (below_step (by repeat (first | exact HB.out | apply below_alloc | apply pw_below_drewN | apply below_drew1)) hb); have n1_ := Aside0.mk (Sep.below (by repeat (first | exact HS.out | apply sep_alloc | apply sep_drewN | apply sep_drew)) hb); clear HB HS; have HB := n0_; have HS := n1_; clear n0_ n1_ hb)))
     go_ret
     exact ⟨openN u, q, bad', rfl, Turned.of_sep (mk := fun _ => rdR g (.slice A b.length c) q bad') (F' := fun _ => True) HS.out HB0.out HB.out, by have := HQ2.out; omega, HBM.out, (fun n p' h h2 => by subst h2; obtain ⟨e1, e2, e3, e4⟩ := HXX.out n p' h; exact ⟨e1, e2, e3⟩), HNN.out⟩
    ·have HA1 := Aside0.mk (atR_bad (b := b) (p := p + 2) (wd := 1) (by decide) (by omega))
     obtain ⟨u, r1, r2, q, bad', hu, hA2, hx2, hq2, hbm⟩ := at_any b (p + 2) 14 true (by decide)
     have HA2 := Aside0.mk hA2
     have HX2 := Aside0.mk hx2
     have HU := Aside0.mk hu
     have HQ2 := Aside0.mk hq2
     have HBM := Aside0.mk hbm
     have HNN := Aside0.mk (show decL b p = none from decL_Y (k := 2) HK.out (by show ¬ p + 3 + 14 ≤ _; omega))
     clear hin1
     clear hk hn hj hj4 hle hu hA2 hx2 hq2 hbm
     go_wp2_with (first
      | ((with_reducible refine gate_dst (N := 9) rfl ?_); (try (refine gate_guard (by rfl) ?_; dsimp only)); refine goesL_ (some 9) rfl rfl Try.func104 (by kernel_rfl) rfl #[.pointer (some ⟨g, 0, none⟩), .int .i64 1] rfl (by (try simp only [List.map_toArray, List.map_cons, List.map_nil]); first | done | rfl) ?_; (with_reducible refine (rdtake_calls g A c b (p + 2) 1 bad 0 2 0 (p + 2) true 1 w0 _ rfl HB.out HS.out.own HR.out HC.out HBY.out HL.out (by decide) (by have := HP.out; omega) HA1.out (.inr ⟨by decide, rfl, rfl, rfl⟩)).mono ?_); rintro e w8 ⟨rfl, ht⟩; refine ⟨_, rfl, ?_⟩; obtain ⟨F_, hs_⟩ := Turned.sep ht (HS.out) rfl; have n0_ := Aside0.mk (Turned.below ht); clear HB HS ht; have HB := n0_; have HS := Aside0.mk hs_; clear n0_ hs_)
      | ((with_reducible refine gate_dst (N := 20) rfl ?_); (try (refine gate_guard (by rfl) ?_; dsimp only)); refine goesL_ (some 20) rfl rfl Try.func104 (by kernel_rfl) rfl #[.pointer (some ⟨g, 0, none⟩), .int .i64 14] rfl (by (try simp only [List.map_toArray, List.map_cons, List.map_nil]); first | done | rfl) ?_; (with_reducible refine (rdtake_calls g A c b (p + 2) 14 true r1 r2 (u : Int) q bad' 14 w0 _ rfl (below_alloc HB.out _) (sep_alloc HS.out _).own HR.out HC.out HBY.out HL.out (by decide) (by have := HP.out; omega) HA2.out HX2.out).mono ?_); rintro e w9 ⟨rfl, ht⟩; refine ⟨_, rfl, ?_⟩; obtain ⟨F_, hs_⟩ := Turned.sep ht (sep_alloc HS.out _) rfl; have n0_ := Aside0.mk (Turned.below ht); clear HB HS ht; have HB := n0_; have HS := Aside0.mk hs_; clear n0_ hs_)
      | (go_at_call 105; ((with_reducible refine (refopen_n (u : Int) u _ rfl HU.out).mono ?_); rintro e w3 ⟨rfl, hb⟩; have n0_ := Aside0.mk (below_step (by repeat (first | exact HB.out | apply below_alloc | apply pw_below_drewN | apply below_drew1)) hb); have n1_ := Aside0.mk (Sep.below (by repeat (first | exact HS.out | apply sep_alloc | apply sep_drewN | apply sep_drew)) hb); clear HB HS; have HB := n0_; have HS := n1_; clear n0_ n1_ hb)))
     go_ret
     exact ⟨openN u, q, bad', rfl, Turned.of_sep (mk := fun _ => rdR g (.slice A b.length c) q bad') (F' := fun _ => True) HS.out HB0.out HB.out, by have := HQ2.out; omega, (fun _ => by have := HBM.out; simpa using this), (fun n p' h h2 => by rw [HNN.out] at h; cases h), (fun _ => by have := HBM.out; simpa using this)⟩
   ·by_cases hin1 : p + 3 + 1 ≤ 8 * b.length
    ·obtain ⟨z, hA1, hne⟩ : ∃ z, atR b ((p + 3 : Nat) : Int) ((1 : Nat) : Int) = (z, 0) ∧ (z == 1) = false := by
      refine ⟨_, atR_ok (by omega) hin1, ?_⟩
      have := bt_lt b (p + 3)
      rw [val_one, beq_eq_false_iff_ne]
      have h1 : ¬ bt b (p + 3) = 1 := fun h => hn ⟨by omega, hin1, h⟩
      omega
     have HA1 := Aside0.mk hA1
     clear hA1
     obtain ⟨u, r1, r2, q, bad', hu, hA2, hx2, hq2, hbm⟩ := at_any b (p + 4) 32 bad (by decide)
     have HA2 := Aside0.mk hA2
     have HX2 := Aside0.mk hx2
     have HU := Aside0.mk hu
     have HQ2 := Aside0.mk hq2
     have HBM := Aside0.mk hbm
     have HXX := Aside0.mk (show ∀ n p', decL b p = some (n, p') → bad' = bad ∧ openN u = n ∧ q = p' ∧ True from fun n p' h => by
      by_cases hin : p + 4 + 32 ≤ 8 * b.length
      ·have hd := decL_X (dec_X (b := b) (p := p) (k := 3) HK.out hin)
       rw [hd] at h
       injection h with h
       injection h with h3 h4
       have ha := atR_ok (b := b) (p := p + 4) (wd := 32) (by decide) hin
       rw [HA2.out] at ha
       injection ha with ha1 ha2
       rcases HX2.out with ⟨_, e1, e2, e3⟩ | ⟨e0, _⟩
       ·refine ⟨e3, ?_, by rw [e2, ← h4]; rfl, trivial⟩
        rw [← h3]
        congr 1
        rw [ha1] at e1
        exact Int.natCast_inj.1 e1
       ·exact absurd ha2 e0
      ·rw [decL_Y (k := 3) HK.out hin] at h; cases h)
     have HNN := Aside0.mk (show decL b p = none → bad' = true from fun h => by
      by_cases hin : p + 4 + 32 ≤ 8 * b.length
      ·rw [decL_X (dec_X (b := b) (p := p) (k := 3) HK.out hin)] at h; cases h
      ·have ha := atR_bad (b := b) (p := p + 4) (wd := 32) (by decide) (by omega)
       rw [HA2.out] at ha
       injection ha with ha1 ha2
       rcases HX2.out with ⟨e0, _⟩ | ⟨_, _, _, e3⟩
       ·rw [ha2] at e0; exact absurd e0 (by decide)
       ·exact e3)
     clear hin1
     clear hk hn hj hj4 hle hu hA2 hx2 hq2 hbm
     go_wp2_with (first
      | ((with_reducible refine gate_dst (N := 9) rfl ?_); (try (refine gate_guard (by rfl) ?_; dsimp only)); refine goesL_ (some 9) rfl rfl Try.func104 (by kernel_rfl) rfl #[.pointer (some ⟨g, 0, none⟩), .int .i64 1] rfl (by (try simp only [List.map_toArray, List.map_cons, List.map_nil]); first | done | rfl) ?_; (with_reducible refine (rdtake_calls g A c b (p + 3) 1 bad z 0 z (p + 4) bad 1 w0 _ rfl HB.out HS.out.own HR.out HC.out HBY.out HL.out (by decide) (by have := HP.out; omega) HA1.out (.inl ⟨rfl, rfl, by omega, rfl⟩)).mono ?_); rintro e w8 ⟨rfl, ht⟩; refine ⟨_, rfl, ?_⟩; obtain ⟨F_, hs_⟩ := Turned.sep ht (HS.out) rfl; have n0_ := Aside0.mk (Turned.below ht); clear HB HS ht; have HB := n0_; have HS := Aside0.mk hs_; clear n0_ hs_)
      | ((with_reducible refine gate_dst (N := 20) rfl ?_); (try (refine gate_guard (by rfl) ?_; dsimp only)); refine goesL_ (some 20) rfl rfl Try.func104 (by kernel_rfl) rfl #[.pointer (some ⟨g, 0, none⟩), .int .i64 32] rfl (by (try simp only [List.map_toArray, List.map_cons, List.map_nil]); first | done | rfl) ?_; (with_reducible refine (rdtake_calls g A c b (p + 4) 32 bad r1 r2 (u : Int) q bad' 32 w0 _ rfl (below_alloc HB.out _) (sep_alloc HS.out _).own HR.out HC.out HBY.out HL.out (by decide) (by have := HP.out; omega) HA2.out HX2.out).mono ?_); rintro e w9 ⟨rfl, ht⟩; refine ⟨_, rfl, ?_⟩; obtain ⟨F_, hs_⟩ := Turned.sep ht (sep_alloc HS.out _) rfl; have n0_ := Aside0.mk (Turned.below ht); clear HB HS ht; have HB := n0_; have HS := Aside0.mk hs_; clear n0_ hs_)
      | (go_at_call 105; ((with_reducible refine (refopen_n (u : Int) u _ rfl HU.out).mono ?_); rintro e w3 ⟨rfl, hb⟩; have n0_ := Aside0.mk (below_step (by repeat (first | exact HB.out | apply below_alloc | apply pw_below_drewN | apply below_drew1)) hb); have n1_ := Aside0.mk (Sep.below (by repeat (first | exact HS.out | apply sep_alloc | apply sep_drewN | apply sep_drew)) hb); clear HB HS; have HB := n0_; have HS := n1_; clear n0_ n1_ hb)))
     go_ret
     exact ⟨openN u, q, bad', rfl, Turned.of_sep (mk := fun _ => rdR g (.slice A b.length c) q bad') (F' := fun _ => True) HS.out HB0.out HB.out, by have := HQ2.out; omega, HBM.out, (fun n p' h h2 => by subst h2; obtain ⟨e1, e2, e3, e4⟩ := HXX.out n p' h; exact ⟨e1, e2, e3⟩), HNN.out⟩
    ·have HA1 := Aside0.mk (atR_bad (b := b) (p := p + 3) (wd := 1) (by decide) (by omega))
     obtain ⟨u, r1, r2, q, bad', hu, hA2, hx2, hq2, hbm⟩ := at_any b (p + 3) 32 true (by decide)
     have HA2 := Aside0.mk hA2
     have HX2 := Aside0.mk hx2
     have HU := Aside0.mk hu
     have HQ2 := Aside0.mk hq2
     have HBM := Aside0.mk hbm
     have HNN := Aside0.mk (show decL b p = none from decL_Y (k := 3) HK.out (by show ¬ p + 4 + 32 ≤ _; omega))
     clear hin1
     clear hk hn hj hj4 hle hu hA2 hx2 hq2 hbm
     go_wp2_with (first
      | ((with_reducible refine gate_dst (N := 9) rfl ?_); (try (refine gate_guard (by rfl) ?_; dsimp only)); refine goesL_ (some 9) rfl rfl Try.func104 (by kernel_rfl) rfl #[.pointer (some ⟨g, 0, none⟩), .int .i64 1] rfl (by (try simp only [List.map_toArray, List.map_cons, List.map_nil]); first | done | rfl) ?_; (with_reducible refine (rdtake_calls g A c b (p + 3) 1 bad 0 2 0 (p + 3) true 1 w0 _ rfl HB.out HS.out.own HR.out HC.out HBY.out HL.out (by decide) (by have := HP.out; omega) HA1.out (.inr ⟨by decide, rfl, rfl, rfl⟩)).mono ?_); rintro e w8 ⟨rfl, ht⟩; refine ⟨_, rfl, ?_⟩; obtain ⟨F_, hs_⟩ := Turned.sep ht (HS.out) rfl; have n0_ := Aside0.mk (Turned.below ht); clear HB HS ht; have HB := n0_; have HS := Aside0.mk hs_; clear n0_ hs_)
      | ((with_reducible refine gate_dst (N := 20) rfl ?_); (try (refine gate_guard (by rfl) ?_; dsimp only)); refine goesL_ (some 20) rfl rfl Try.func104 (by kernel_rfl) rfl #[.pointer (some ⟨g, 0, none⟩), .int .i64 32] rfl (by (try simp only [List.map_toArray, List.map_cons, List.map_nil]); first | done | rfl) ?_; (with_reducible refine (rdtake_calls g A c b (p + 3) 32 true r1 r2 (u : Int) q bad' 32 w0 _ rfl (below_alloc HB.out _) (sep_alloc HS.out _).own HR.out HC.out HBY.out HL.out (by decide) (by have := HP.out; omega) HA2.out HX2.out).mono ?_); rintro e w9 ⟨rfl, ht⟩; refine ⟨_, rfl, ?_⟩; obtain ⟨F_, hs_⟩ := Turned.sep ht (sep_alloc HS.out _) rfl; have n0_ := Aside0.mk (Turned.below ht); clear HB HS ht; have HB := n0_; have HS := Aside0.mk hs_; clear n0_ hs_)
      | (go_at_call 105; ((with_reducible refine (refopen_n (u : Int) u _ rfl HU.out).mono ?_); rintro e w3 ⟨rfl, hb⟩; have n0_ := Aside0.mk (below_step (by repeat (first | exact HB.out | apply below_alloc | apply pw_below_drewN | apply below_drew1)) hb); have n1_ := Aside0.mk (Sep.below (by repeat (first | exact HS.out | apply sep_alloc | apply sep_drewN | apply sep_drew)) hb); clear HB HS; have HB := n0_; have HS := n1_; clear n0_ n1_ hb)))
     go_ret
     exact ⟨openN u, q, bad', rfl, Turned.of_sep (mk := fun _ => rdR g (.slice A b.length c) q bad') (F' := fun _ => True) HS.out HB0.out HB.out, by have := HQ2.out; omega, (fun _ => by have := HBM.out; simpa using this), (fun n p' h h2 => by rw [HNN.out] at h; cases h), (fun _ => by have := HBM.out; simpa using this)⟩
   ·have hin1 : True := trivial
    obtain ⟨u, r1, r2, q, bad', hu, hA2, hx2, hq2, hbm⟩ := at_any b (p + 4) 64 bad (by decide)
    have HA2 := Aside0.mk hA2
    have HX2 := Aside0.mk hx2
    have HU := Aside0.mk hu
    have HQ2 := Aside0.mk hq2
    have HBM := Aside0.mk hbm
    have HXX := Aside0.mk (show ∀ n p', decL b p = some (n, p') → bad' = bad ∧ openN u = n ∧ q = p' ∧ True from fun n p' h => by
     by_cases hin : p + 4 + 64 ≤ 8 * b.length
     ·have hd := decL_X (dec_X (b := b) (p := p) (k := 4) HK.out hin)
      rw [hd] at h
      injection h with h
      injection h with h3 h4
      have ha := atR_ok (b := b) (p := p + 4) (wd := 64) (by decide) hin
      rw [HA2.out] at ha
      injection ha with ha1 ha2
      rcases HX2.out with ⟨_, e1, e2, e3⟩ | ⟨e0, _⟩
      ·refine ⟨e3, ?_, by rw [e2, ← h4]; rfl, trivial⟩
       rw [← h3]
       congr 1
       rw [ha1] at e1
       exact Int.natCast_inj.1 e1
      ·exact absurd ha2 e0
     ·rw [decL_Y (k := 4) HK.out hin] at h; cases h)
    have HNN := Aside0.mk (show decL b p = none → bad' = true from fun h => by
     by_cases hin : p + 4 + 64 ≤ 8 * b.length
     ·rw [decL_X (dec_X (b := b) (p := p) (k := 4) HK.out hin)] at h; cases h
     ·have ha := atR_bad (b := b) (p := p + 4) (wd := 64) (by decide) (by omega)
      rw [HA2.out] at ha
      injection ha with ha1 ha2
      rcases HX2.out with ⟨e0, _⟩ | ⟨_, _, _, e3⟩
      ·rw [ha2] at e0; exact absurd e0 (by decide)
      ·exact e3)
    clear hin1
    clear hk hn hj hj4 hle hu hA2 hx2 hq2 hbm
    go_wp2_with (first
     | ((with_reducible refine gate_dst (N := 20) rfl ?_); (try (refine gate_guard (by rfl) ?_; dsimp only)); refine goesL_ (some 20) rfl rfl Try.func104 (by kernel_rfl) rfl #[.pointer (some ⟨g, 0, none⟩), .int .i64 64] rfl (by (try simp only [List.map_toArray, List.map_cons, List.map_nil]); first | done | rfl) ?_; (with_reducible refine (rdtake_calls g A c b (p + 4) 64 bad r1 r2 (u : Int) q bad' 64 w0 _ rfl (below_alloc HB.out _) (sep_alloc HS.out _).own HR.out HC.out HBY.out HL.out (by decide) (by have := HP.out; omega) HA2.out HX2.out).mono ?_); rintro e w9 ⟨rfl, ht⟩; refine ⟨_, rfl, ?_⟩; obtain ⟨F_, hs_⟩ := Turned.sep ht (sep_alloc HS.out _) rfl; have n0_ := Aside0.mk (Turned.below ht); clear HB HS ht; have HB := n0_; have HS := Aside0.mk hs_; clear n0_ hs_)
     | (go_at_call 105; ((with_reducible refine (refopen_n (u : Int) u _ rfl HU.out).mono ?_); rintro e w3 ⟨rfl, hb⟩; have n0_ := Aside0.mk (below_step (by repeat (first | exact HB.out | apply below_alloc | apply pw_below_drewN | apply below_drew1)) hb); have n1_ := Aside0.mk (Sep.below (by repeat (first | exact HS.out | apply sep_alloc | apply sep_drewN | apply sep_drew)) hb); clear HB HS; have HB := n0_; have HS := n1_; clear n0_ n1_ hb)))
    go_ret
    exact ⟨openN u, q, bad', rfl, Turned.of_sep (mk := fun _ => rdR g (.slice A b.length c) q bad') (F' := fun _ => True) HS.out HB0.out HB.out, by have := HQ2.out; omega, HBM.out, (fun n p' h h2 => by subst h2; obtain ⟨e1, e2, e3, e4⟩ := HXX.out n p' h; exact ⟨e1, e2, e3⟩), HNN.out⟩
end Go.Proofs.Ythkpnnbjcendcaa.Sc
end
section
section
open Go.RowKit Go.Proofs.Ythkpnnbjcendcaa.X Go.Proofs.Ythkpnnbjcendcaa.Pl Go.Proofs.Ythkpnnbjcendcaa.Sp Go.Proofs.Ythkpnnbjcendcaa.Pure Go.Proofs.YthkpnnbjcendcaaW.PrintWords Go.Proofs.YthkpnnbjcendcaaW.PrintLast Go.Proofs.YthkpnnbjcendcaaW.PrintMore
namespace Go.Proofs.Ythkpnnbjcendcaa.Sc
theorem right_calls (A0 : Option Addr) (c0 : Nat) (l0 : List S52) (w : World) (hr0 : Kd.C k52 w A0 l0.length l0) (hc0 : l0.length ≤ c0) (hl : l0.length < 4611686018427387904) :
  Calls Try.prog 33 #[.slice A0 l0.length c0] w fun e w' => e = .returned (.bool (rightB l0)) ∧ Below w.heap.size w w' := by
 obtain ⟨K, hK⟩ := right_ev l0 hl
 refine (steps_Right.calls K A0 c0 l0 _ w hr0 hc0 (hK K (Nat.le_refl _))).mono ?_
 rintro e w' ⟨rfl, hd⟩
 exact ⟨rfl, hd.below⟩
set_option maxHeartbeats 8000000 in
set_option maxRecDepth 100000 in
theorem sput_calls (A0 : Option Addr) (c0 : Nat) (l0 : List S52) (w : World) (hr0 : Kd.C k52 w A0 l0.length l0) (hc0 : l0.length ≤ c0) (hl : l0.length < 4611686018427387904) (hf : fitP l0) :
  Calls Try.prog 29 #[.slice A0 l0.length c0] w fun e w' => ∃ v, e = .returned (.tuple #[v, .int .i64 (putR l0).2]) ∧ Kd.R (Kd.int .u8) 5 w' w.heap.size (fun _ => True) v (putR l0).1 ∧ Below w.heap.size w w' := by
 have HB := Aside0.mk (Below.refl w.heap.size w)
 have HS := Aside0.mk (Sep.nil w.heap.size w)
 have HR := Aside0.mk hr0
 have HC := Aside0.mk hc0
 have HL := Aside0.mk hl
 have HF := Aside0.mk hf
 clear hr0 hc0 hl hf
 by_cases h1 : l0.length > 1024
 ·have h1b : decide (1024 < (l0.length : Int)) = true := decide_eq_true (by omega)
  have h1n : decide (1024 < l0.length) = true := decide_eq_true h1
  have HE := Aside0.mk (show putR l0 = ([], 3) by unfold putR; rw [if_pos h1])
  clear h1
  go_enter Try.func29, Try.ntmps29
  go_wp2
  go_ret2
  refine ⟨.slice none 0 0, by rw [HE.out]; rfl, ?_, (by repeat (first | exact HB.out | apply below_alloc | apply pw_below_drewN | apply below_drew1))⟩
  rw [HE.out]
  exact Kd.R_nil _ _ _ _ _
 ·have h1b : decide (1024 < (l0.length : Int)) = false := decide_eq_false (by omega)
  have h1n : decide (1024 < l0.length) = false := decide_eq_false h1
  have H1 := Aside0.mk h1
  by_cases h2 : rightB l0 = false
  ·have HE := Aside0.mk (show putR l0 = ([], 1) by unfold putR; rw [if_neg h1, if_pos h2])
   clear h1
   go_enter Try.func29, Try.ntmps29
   go_wp2_with (first
    | (go_at_call 33; (with_reducible refine (right_calls A0 c0 l0 _ HR.out HC.out HL.out).mono ?_); rintro e w1 ⟨rfl, hb⟩; have n0_ := Aside0.mk (below_step (by repeat (first | exact HB.out | apply below_alloc | apply pw_below_drewN | apply below_drew1)) hb); have n1_ := Aside0.mk (Sep.below (by repeat (first | exact HS.out | apply sep_alloc | apply sep_drewN | apply sep_drew)) hb); clear HB HS; have HB := n0_; have HS := n1_; clear n0_ n1_ hb))
   go_ret2
   refine ⟨.slice none 0 0, by rw [HE.out]; rfl, ?_, (by repeat (first | exact HB.out | apply below_alloc | apply pw_below_drewN | apply below_drew1))⟩
   rw [HE.out]
   exact Kd.R_nil _ _ _ _ _
  ·have HE := Aside0.mk (show putR l0 = (putB l0, 0) by unfold putR; rw [if_neg h1, if_neg h2])
   have h2t : rightB l0 = true := by simpa using h2
   have hcv : IntKind.u64.wrap (l0.length : Int) = (l0.length : Int) := w_u64 (by omega) (by omega)
   clear h1 h2
   go_enter Try.func29, Try.ntmps29
   go_wp2_with (first
    | (go_at_call 33; (with_reducible refine (right_calls A0 c0 l0 _ HR.out HC.out HL.out).mono ?_); rintro e w1 ⟨rfl, hb⟩; have n0_ := Aside0.mk (below_step (by repeat (first | exact HB.out | apply below_alloc | apply pw_below_drewN | apply below_drew1)) hb); have n1_ := Aside0.mk (Sep.below (by repeat (first | exact HS.out | apply sep_alloc | apply sep_drewN | apply sep_drew)) hb); clear HB HS; have HB := n0_; have HS := n1_; clear n0_ n1_ hb)
    | ((with_reducible refine gate_dst (N := 4) rfl ?_); (try (refine gate_guard (by rfl) ?_; dsimp only)); refine box_event ?hg (N := 4) ?hd (cs := #[.slice none 0 0, .int .i64 0]) (t := 26) ?hr ?_; (case hd => rfl); (case hg => rfl); (case hr => first | (go_simp; done) | (go_simp; rfl)); intro g hg w3 hbox hb; obtain ⟨F0, hs0⟩ := Sep.newbits (by repeat (first | exact HS.out | apply sep_alloc | apply sep_drewN | apply sep_drew)) hb (Nat.le_of_eq hg.symm) (below_size (by repeat (first | exact HB.out | apply below_alloc | apply pw_below_drewN | apply below_drew1))) hbox; have n0_ := Aside0.mk (below_step (by repeat (first | exact HB.out | apply below_alloc | apply pw_below_drewN | apply below_drew1)) hb); clear HB HS hg hbox hb; have HB := n0_; have HS := Aside0.mk hs0; clear n0_ hs0)
    | ((with_reducible refine gate_dst (N := 5) rfl ?_); (try (refine gate_guard (by rfl) ?_; dsimp only)); refine box_event ?hg (N := 5) ?hd (cs := #[.int .i64 0, .int .i64 0]) (t := 87) ?hr ?_; (case hd => rfl); (case hg => rfl); (case hr => first | (go_simp; done) | (go_simp; rfl)); intro gt hg w4 hbox hb; have n0_ := Aside0.mk (below_step (by repeat (first | exact HB.out | apply below_alloc | apply pw_below_drewN | apply below_drew1)) hb); have n1_ := Aside0.mk (Sep.newbox (by repeat (first | exact HS.out | apply sep_alloc | apply sep_drewN | apply sep_drew)) hb (Nat.le_of_eq hg.symm) (below_size (by repeat (first | exact HB.out | apply below_alloc | apply pw_below_drewN | apply below_drew1))) hbox); clear HB HS; have HB := n0_; have HS := n1_; clear n0_ n1_ hb hbox hg)
    | ((with_reducible refine gate_dst (N := 6) rfl ?_); (try (refine gate_guard (by rfl) ?_; dsimp only)); refine box_event ?hg (N := 6) ?hd (cs := #[.int .i64 0, .int .i64 0]) (t := 87) ?hr ?_; (case hd => rfl); (case hg => rfl); (case hr => first | (go_simp; done) | (go_simp; rfl)); intro gv hg w5 hbox hb; have n0_ := Aside0.mk (below_step (by repeat (first | exact HB.out | apply below_alloc | apply pw_below_drewN | apply below_drew1)) hb); have n1_ := Aside0.mk (Sep.newbox (by repeat (first | exact HS.out | apply sep_alloc | apply sep_drewN | apply sep_drew)) hb (Nat.le_of_eq hg.symm) (below_size (by repeat (first | exact HB.out | apply below_alloc | apply pw_below_drewN | apply below_drew1))) hbox); clear HB HS; have HB := n0_; have HS := n1_; clear n0_ n1_ hb hbox hg))
   go_loopg [19] l0.length (fun kq v19 w' => ∃ (j : Nat) (a b c d : Int) (L : List Bool) (F : Nat → Prop), v19 = .int .i64 (j : Int) ∧ Aside0 (kq + j = l0.length ∧ L.length ≤ 136 * j ∧ L ++ marksP a b c d (l0.drop j) = marksP 0 0 0 0 l0) ∧ Aside0 (Sep w.heap.size w' [pairR gv c d, pairR gt a b, bitsR w.heap.size g L F]) ∧ Aside0 (Below w.heap.size w w'))
   case atStart => exact ⟨0, 0, 0, 0, 0, [], F0, rfl, ⟨by omega, by simp, by simp⟩, HS, HB⟩
   case round =>
    clear HS HB
    obtain ⟨j, a, b, c, d, L, F, rfl, HI, HS, HB⟩ := hrel
    by_cases hlt : j < l0.length
    ·obtain ⟨k1, rfl⟩ : ∃ m, gk = m + 1 := ⟨gk - 1, by have := HI.out; omega⟩
     have c1b : decide ((j : Int) < (l0.length : Int)) = true := decide_eq_true (by omega)
     have c1n : decide (j < l0.length) = true := decide_eq_true hlt
     have hnx : wrap64 ((j : Int) + 1) = ((j + 1 : Nat) : Int) := by have := H1.out; rw [w64 (by omega) (by omega)]; simp
     obtain ⟨ad, e1, hx0, hx1⟩ := at_T52 HR.out (j : Int) (by omega) (by omega)
     cases e1
     rw [Int.toNat_natCast] at hx0 hx1
     replace hx0 := (HB.out.cell (World.block_lt_of_cell? w _ hx0)).trans hx0
     replace hx1 := (HB.out.cell (World.block_lt_of_cell? w _ hx1)).trans hx1
     have hdr := drop52 hlt
     have hfp := HF.out _ (rd52_mem hlt)
     obtain ⟨p, hp⟩ : ∃ p, p = rd_T52 l0 (j : Int) := ⟨_, rfl⟩
     rw [← hp] at hx0 hx1 hdr hfp
     obtain ⟨p0, hp0⟩ : ∃ x, x = p.f0 := ⟨_, rfl⟩
     obtain ⟨p1, hp1⟩ : ∃ x, x = p.f1 := ⟨_, rfl⟩
     rw [← hp0] at hx0
     rw [← hp1] at hx1
     have HP0 := Aside0.mk hp0
     have HP1 := Aside0.mk hp1
     have HDR := Aside0.mk hdr
     have HX := Aside0.mk hnx
     have HLL := Aside0.mk (show L.length + 136 ≤ 262144 by have := HI.out; have := H1.out; omega)
     have c4 := eq_true hlt
     have c5 := eq_true (show (j : Int) < (l0.length : Int) by omega)
     have c6 := eq_true (show 0 ≤ (j : Int) by omega)
     obtain ⟨s0, hs0⟩ : ∃ s, wrap64 (wrap64 (p0 - a) - b) = s := ⟨_, rfl⟩
     obtain ⟨s1, hs1⟩ : ∃ s, wrap64 (wrap64 (p1 - c) - d) = s := ⟨_, rfl⟩
     have HS0 := Aside0.mk hs0
     have HS1 := Aside0.mk hs1
     have HF0 := Aside0.mk (show fits64 s0 from hs0 ▸ fits_wrap _)
     have HF1 := Aside0.mk (show fits64 s1 from hs1 ▸ fits_wrap _)
     clear hnx hlt hdr hfp hp hp0 hp1 hs0 hs1
     go_wp2_with (first
      | ((with_reducible refine gate_dst (N := 8) rfl ?_); (try (refine gate_guard (by rfl) ?_; dsimp only)); refine box_event ?hg (N := 8) ?hd (cs := #[.int .i64 0, .int .i64 0]) (t := 52) ?hr ?_; (case hd => rfl); (case hg => rfl); (case hr => first | (go_simp; done) | (go_simp; rfl)); intro gq hg w5 hbox hb; have n0_ := Aside0.mk (below_step (by repeat (first | exact HB.out | apply below_alloc | apply pw_below_drewN | apply below_drew1)) hb); have n1_ := Aside0.mk (Sep.newbox (by repeat (first | exact HS.out | apply sep_alloc | apply sep_drewN | apply sep_drew)) hb (Nat.le_of_eq hg.symm) (below_size (by repeat (first | exact HB.out | apply below_alloc | apply pw_below_drewN | apply below_drew1))) hbox); clear HB HS; have HB := n0_; have HS := n1_; clear n0_ n1_ hb hbox hg; have hc0 := Sep.c20 HS.out; have hc1 := Sep.c21 HS.out; have hf0 := Sep.free HS.out 0; have hf1 := Sep.free HS.out 1)
      | ((with_reducible refine gate_dst (N := 25) rfl ?_); (try (refine gate_guard (by rfl) ?_; dsimp only)); refine goesL_ (some 25) rfl rfl Try.func64 (by kernel_rfl) rfl #[.pointer (some ⟨gt, 0, none⟩), .int .i64 p0] rfl (by (try simp only [List.map_toArray, List.map_cons, List.map_nil]); first | done | rfl) ?_; (with_reducible refine (next_calls gt a b p0 w _ (below_set (below_set HB.out HS.out.ge (j := 0) (v := .int .i64 p0)) HS.out.ge (j := 1) (v := .int .i64 p1)) (Sep.own (Sep.p3 ((HS.out.s20 (.int .i64 p0)).s21 (.int .i64 p1))))).mono ?_); rintro e w6 ⟨rfl, ht⟩; refine ⟨_, rfl, ?_⟩; rw [HS0.out]; obtain ⟨F_, hs_⟩ := Turned.sep ht (Sep.p3 ((HS.out.s20 (.int .i64 p0)).s21 (.int .i64 p1))) rfl; have n0_ := Aside0.mk (Turned.below ht); clear HB HS ht; have HB := n0_; have HS := Aside0.mk hs_; clear n0_ hs_; clear hc0 hc1 hf0 hf1; have hc1 := Sep.c21 HS.out.p2)
      | ((with_reducible refine gate_dst (N := 26) rfl ?_); (try (refine gate_guard (by rfl) ?_; dsimp only)); refine goesL_ (some 26) rfl rfl Try.func63 (by kernel_rfl) rfl #[.pointer (some ⟨g, 0, none⟩), .int .i64 s0] rfl (by (try simp only [List.map_toArray, List.map_cons, List.map_nil]); first | done | rfl) ?_; (with_reducible refine (mark_calls g F L s0 w _ HB.out HS.out.p4.own HF0.out (by have := HLL.out; omega)).mono ?_); rintro e w7 ⟨rfl, ht⟩; refine ⟨_, rfl, ?_⟩; obtain ⟨F2, hs_⟩ := Turned.sep ht (HS.out.p4) rfl; have n0_ := Aside0.mk (Turned.below ht); clear HB HS ht; have HB := n0_; have HS := Aside0.mk hs_; clear n0_ hs_; clear hc1; have hc1 := Sep.c21 HS.out.p3)
      | ((with_reducible refine gate_dst (N := 29) rfl ?_); (try (refine gate_guard (by rfl) ?_; dsimp only)); refine goesL_ (some 29) rfl rfl Try.func64 (by kernel_rfl) rfl #[.pointer (some ⟨gv, 0, none⟩), .int .i64 p1] rfl (by (try simp only [List.map_toArray, List.map_cons, List.map_nil]); first | done | rfl) ?_; (with_reducible refine (next_calls gv c d p1 w _ HB.out HS.out.p4.own).mono ?_); rintro e w8 ⟨rfl, ht⟩; refine ⟨_, rfl, ?_⟩; rw [HS1.out]; obtain ⟨F_, hs_⟩ := Turned.sep ht (HS.out.p4) rfl; have n0_ := Aside0.mk (Turned.below ht); clear HB HS ht; have HB := n0_; have HS := Aside0.mk hs_; clear n0_ hs_; clear hc1)
      | ((with_reducible refine gate_dst (N := 30) rfl ?_); (try (refine gate_guard (by rfl) ?_; dsimp only)); refine goesL_ (some 30) rfl rfl Try.func63 (by kernel_rfl) rfl #[.pointer (some ⟨g, 0, none⟩), .int .i64 s1] rfl (by (try simp only [List.map_toArray, List.map_cons, List.map_nil]); first | done | rfl) ?_; (with_reducible refine (mark_calls g F2 (L ++ markB s0) s1 w _ HB.out HS.out.p2.own HF1.out (by have := HLL.out; have := markB_length s0; rw [List.length_append]; omega)).mono ?_); rintro e w9 ⟨rfl, ht⟩; refine ⟨_, rfl, ?_⟩; obtain ⟨F3, hs_⟩ := Turned.sep ht (HS.out.p2) rfl; have n0_ := Aside0.mk (Turned.below ht); clear HB HS ht; have HB := n0_; have HS := Aside0.mk hs_; clear n0_ hs_))
     go_roundg k1
     case measure => omega
     case rel => exact ⟨j + 1, p0, wrap64 (p0 - a), p1, wrap64 (p1 - c), L ++ markB s0 ++ markB s1, F3, (by first | rfl | rw [HX.out]), ⟨by have := HI.out; omega, by
      have h1 := markB_length s0
      have h2 := markB_length s1
      have := HI.out
      rw [List.length_append, List.length_append]; omega, by
      rw [← HI.out.2.2, HDR.out, marksP_cons, ← HP0.out, ← HP1.out, HS0.out, HS1.out]
      simp only [List.append_assoc]⟩, ⟨(HS.out.p3.p3).drop4.p3.p3.p3 |> fun h => h.p2 |> fun h => h.p2⟩, HB⟩
    ·have c1b : decide ((j : Int) < (l0.length : Int)) = false := decide_eq_false (by omega)
     have c1n : decide (j < l0.length) = false := decide_eq_false hlt
     have hL : L = marksP 0 0 0 0 l0 := by
      have := HI.out.2.2
      rw [List.drop_of_length_le (by omega), marksP_nil, List.append_nil] at this
      exact this
     have HLM := Aside0.mk hL
     have HLN := Aside0.mk (show L.length ≤ 262144 by have := HI.out; have := H1.out; omega)
     have hm : 1 ≤ (varint l0.length).length ∧ (varint l0.length).length ≤ 10 := varint_le 9 _ (by have := H1.out; omega)
     have HVL := Aside0.mk hm
     clear hlt hL hm
     go_wp2_with (first
      | ((with_reducible refine gate_dst (N := 35) rfl ?_); (try (refine gate_guard (by rfl) ?_; dsimp only)); refine goesL_ (some 35) rfl rfl Try.func65 (by kernel_rfl) rfl #[.slice none 0 0, .int .u64 (l0.length : Int)] rfl (by (try simp only [List.map_toArray, List.map_cons, List.map_nil]); first | done | rfl) ?_; (with_reducible refine (oput_nil l0.length _ (by have := H1.out; omega)).mono ?_); rintro e w8 ⟨v, rfl, ho, hb⟩; refine ⟨_, rfl, ?_⟩; obtain ⟨A3, c3, e_⟩ := Kd.R_slice ho; subst e_; obtain ⟨F3, hs_⟩ := Sep.newrow (by repeat (first | exact HS.out | apply sep_alloc | apply sep_drewN | apply sep_drew)) hb (below_size (by repeat (first | exact HB.out | apply below_alloc | apply pw_below_drewN | apply below_drew1))) ho; have n0_ := Aside0.mk (below_step (by repeat (first | exact HB.out | apply below_alloc | apply pw_below_drewN | apply below_drew1)) hb); clear HB HS hb ho; have HB := n0_; have HS := Aside0.mk hs_; clear n0_ hs_)
      | ((with_reducible refine gate_dst (N := 36) rfl ?_); (try (refine gate_guard (by rfl) ?_; dsimp only)); refine goesL_ (some 36) rfl rfl Try.func25 (by kernel_rfl) rfl #[.pointer (some ⟨g, 0, none⟩)] rfl (by (try simp only [List.map_toArray, List.map_cons, List.map_nil]); first | done | rfl) ?_; (with_reducible refine (bytes_calls w.heap.size g F L _ HS.out.p4.own).mono ?_); rintro e w9 ⟨v, rfl, ho, hb⟩; refine ⟨_, rfl, ?_⟩; obtain ⟨A4, c4, e_⟩ := Kd.R_slice ho; subst e_; obtain ⟨F4, hs_⟩ := Sep.newrow (by repeat (first | exact HS.out | apply sep_alloc | apply sep_drewN | apply sep_drew)) hb (below_size (by repeat (first | exact HB.out | apply below_alloc | apply pw_below_drewN | apply below_drew1))) ho; have n0_ := Aside0.mk (below_step (by repeat (first | exact HB.out | apply below_alloc | apply pw_below_drewN | apply below_drew1)) hb); clear HB HS hb ho; have HB := n0_; have HS := Aside0.mk hs_; clear n0_ hs_)
      | ((with_reducible refine gate_builtin (b := .append) (xs := #[.tmp 35, .tmp 36]) rfl ?_); (refine wp_append_row (Kd.int .u8) (w0 := w) rfl (.tmp 35) (.tmp 36) 24 5 (.int .u8 0) 1 rfl Try.underlying24 info5 rfl (by decide) (by omega) (pack L) _ _ _ HS.out.p2 (Kd.R_reads' (Sep.R HS.out)).2.2 (fun _ _ h => h) (by repeat (first | exact HB.out | apply below_alloc | apply pw_below_drewN | apply below_drew1)) (by have := HVL.out; have := HLN.out; rw [pack_length]; omega) rfl rfl ?_); (intro v_ w_ F_ hs_ hb_); (obtain ⟨O1, hy_⟩ : ∃ y_, y_ = (varint l0.length) ++ (pack L) := ⟨_, rfl⟩; rw [← hy_] at hs_; have HO1 := Aside0.mk hy_; clear hy_ HB HS; have HB := Aside0.mk hb_; have HS := Aside0.mk hs_; clear hs_ hb_; obtain ⟨A_, c_, e_⟩ := Kd.R_slice (Sep.R HS.out); subst e_); (skip)))
     go_ret2
     refine ⟨_, by rw [HE.out]; rfl, ?_, HB.out⟩
     rw [HE.out]
     show Kd.R _ _ _ _ _ _ (putB l0)
     have : O1 = putB l0 := by rw [HO1.out, HLM.out]; rfl
     rw [← this]
     exact Kd.R_mono (Sep.R HS.out) (fun _ _ => trivial)
end Go.Proofs.Ythkpnnbjcendcaa.Sc
end
section
open Go.RowKit Go.Proofs.Ythkpnnbjcendcaa.X Go.Proofs.Ythkpnnbjcendcaa.Pl Go.Proofs.Ythkpnnbjcendcaa.Sp Go.Proofs.Ythkpnnbjcendcaa.Sc Go.Proofs.Ythkpnnbjcendcaa.Pure Go.Proofs.YthkpnnbjcendcaaW.PrintWords Go.Proofs.YthkpnnbjcendcaaW.PrintLast Go.Proofs.YthkpnnbjcendcaaW.PrintMore
namespace Go.Proofs.Ythkpnnbjcendcaa.Sc
theorem refsecs_calls (A0 : Option Addr) (c0 : Nat) (l0 : List Int) (w : World) (hr0 : Kd.C (Kd.int .i64) w A0 l0.length l0) (hc0 : l0.length ≤ c0) (hl : l0.length ≤ 1000000) :
  Calls Try.prog 38 #[.slice A0 l0.length c0] w fun e w' => ∃ v, e = .returned v ∧ Kd.R (Kd.int .i64) 3 w' w.heap.size (fun _ => True) v (secs 0 0 l0) ∧ Below w.heap.size w w' := by
 obtain ⟨K, hK⟩ := ref_secs_ev l0 hl
 exact marigraphref04_Seconds.calls K A0 c0 l0 _ w hr0 hc0 (hK K (Nat.le_refl _))
theorem reffrs_calls (A0 : Option Addr) (c0 : Nat) (l0 : List Int) (w : World) (hr0 : Kd.C (Kd.int .i64) w A0 l0.length l0) (hc0 : l0.length ≤ c0) (hl : l0.length ≤ 1000000) :
  Calls Try.prog 40 #[.slice A0 l0.length c0] w fun e w' => ∃ v, e = .returned v ∧ Kd.R (Kd.int .i64) 3 w' w.heap.size (fun _ => True) v (frs 0 0 l0) ∧ Below w.heap.size w w' := by
 obtain ⟨K, hK⟩ := ref_frs_ev l0 hl
 exact marigraphref04_Firsts.calls K A0 c0 l0 _ w hr0 hc0 (hK K (Nat.le_refl _))
end Go.Proofs.Ythkpnnbjcendcaa.Sc
namespace Go.Proofs.Ythkpnnbjcendcaa.X
end Go.Proofs.Ythkpnnbjcendcaa.X
end
section
open Go.RowKit Go.Proofs.Ythkpnnbjcendcaa.X Go.Proofs.Ythkpnnbjcendcaa.Pl Go.Proofs.Ythkpnnbjcendcaa.Sp Go.Proofs.Ythkpnnbjcendcaa.Pure Go.Proofs.YthkpnnbjcendcaaW.PrintWords Go.Proofs.YthkpnnbjcendcaaW.PrintLast Go.Proofs.YthkpnnbjcendcaaW.PrintMore
namespace Go.Proofs.Ythkpnnbjcendcaa.Sc
theorem refright_calls (A0 : Option Addr) (c0 : Nat) (l0 : List S52) (w : World) (hr0 : Kd.C k52 w A0 l0.length l0) (hc0 : l0.length ≤ c0) (hl : l0.length < 4611686018427387904) :
  Calls Try.prog 34 #[.slice A0 l0.length c0] w fun e w' => e = .returned (.bool (rightB l0)) ∧ Below w.heap.size w w' := by
 obtain ⟨K, hK⟩ := ref_right_ev l0 hl
 refine (marigraphref04_Right.calls K A0 c0 l0 _ w hr0 hc0 (hK K (Nat.le_refl _))).mono ?_
 rintro e w' ⟨rfl, hd⟩
 exact ⟨rfl, hd.below⟩
theorem split_calls (A0 : Option Addr) (c0 : Nat) (l0 : List S52) (w : World) (hr0 : Kd.C k52 w A0 l0.length l0) (hc0 : l0.length ≤ c0) (hl : l0.length ≤ 1000000) :
  Calls Try.prog 66 #[.slice A0 l0.length c0] w fun e w' => ∃ v0_ v1_ : Value, e = .returned (.tuple #[v0_, v1_]) ∧ Kd.R (Kd.int .i64) 3 w' w.heap.size (fun k_ => some k_ ≠ (v1_ : Value).ownBlock) v0_ (l0.map (·.f0)) ∧ Kd.R (Kd.int .i64) 3 w' w.heap.size (fun k_ => some k_ ≠ (v0_ : Value).ownBlock) v1_ (l0.map (·.f1)) ∧ Below w.heap.size w w' := by
 obtain ⟨K, hK⟩ := split_ev l0 hl
 exact marigraphref04_split.calls K A0 c0 l0 _ _ w hr0 hc0 (hK K (Nat.le_refl _))
theorem ref1put_calls (A0 : Option Addr) (c0 : Nat) (b : List Int) (n : Nat) (w : World) (hr0 : Kd.C (Kd.int .u8) w A0 b.length b) (hc0 : b.length ≤ c0) (hl : b.length ≤ 100000000) (hn : n < 2 ^ 64) :
  Calls Try.prog 68 #[.slice A0 b.length c0, .int .u64 (n : Int)] w fun e w' => ∃ v, e = .returned v ∧ Kd.R (Kd.int .u8) 5 w' w.heap.size (fun _ => True) v (b ++ varint n) ∧ Below w.heap.size w w' := by
 obtain ⟨K, hK⟩ := ref_put_ev b n hl hn
 exact marigraphref01_Put.calls K A0 c0 b _ _ w hr0 hc0 (hK K (Nat.le_refl _))
theorem ref1put_nil (n : Nat) (w : World) (hn : n < 2 ^ 64) :
  Calls Try.prog 68 #[.slice none 0 0, .int .u64 (n : Int)] w fun e w' => ∃ v, e = .returned v ∧ Kd.R (Kd.int .u8) 5 w' w.heap.size (fun _ => True) v (varint n) ∧ Below w.heap.size w w' :=
 ref1put_calls none 0 [] n w (Kd.C_nil _ _) (by decide) (by decide) hn
theorem refsecs_n (A0 : Option Addr) (c0 n : Nat) (l0 xs : List Int) (w : World) (hn : l0.length = n) (hx : xs = secs 0 0 l0) (hr0 : Kd.C (Kd.int .i64) w A0 l0.length l0) (hc0 : n ≤ c0) (hl : n ≤ 1000000) :
  Calls Try.prog 38 #[.slice A0 n c0] w fun e w' => ∃ v, e = .returned v ∧ Kd.R (Kd.int .i64) 3 w' w.heap.size (fun _ => True) v xs ∧ Below w.heap.size w w' := by
 subst hn
 subst hx
 exact refsecs_calls A0 c0 l0 w hr0 hc0 hl
set_option maxHeartbeats 8000000 in
set_option maxRecDepth 100000 in
theorem rput_calls (A0 : Option Addr) (c0 : Nat) (l0 : List S52) (w : World) (hr0 : Kd.C k52 w A0 l0.length l0) (hc0 : l0.length ≤ c0) (hl : l0.length < 4611686018427387904) :
  Calls Try.prog 31 #[.slice A0 l0.length c0] w fun e w' => ∃ v, e = .returned (.tuple #[v, .int .i64 (putR l0).2]) ∧ Kd.R (Kd.int .u8) 5 w' w.heap.size (fun _ => True) v (putR l0).1 ∧ Below w.heap.size w w' := by
 have HB := Aside0.mk (Below.refl w.heap.size w)
 have HS := Aside0.mk (Sep.nil w.heap.size w)
 have HR := Aside0.mk hr0
 have HC := Aside0.mk hc0
 have HL := Aside0.mk hl
 clear hr0 hc0 hl
 by_cases h1 : l0.length > 1024
 ·have h1b : decide (1024 < (l0.length : Int)) = true := decide_eq_true (by omega)
  have h1n : decide (1024 < l0.length) = true := decide_eq_true h1
  have HE := Aside0.mk (show putR l0 = ([], 3) by unfold putR; rw [if_pos h1])
  clear h1
  go_enter Try.func31, Try.ntmps31
  go_wp2
  go_ret2
  refine ⟨.slice none 0 0, by rw [HE.out]; rfl, ?_, (by repeat (first | exact HB.out | apply below_alloc | apply pw_below_drewN | apply below_drew1))⟩
  rw [HE.out]
  exact Kd.R_nil _ _ _ _ _
 ·have h1b : decide (1024 < (l0.length : Int)) = false := decide_eq_false (by omega)
  have h1n : decide (1024 < l0.length) = false := decide_eq_false h1
  have H1 := Aside0.mk h1
  by_cases h2 : rightB l0 = false
  ·have HE := Aside0.mk (show putR l0 = ([], 1) by unfold putR; rw [if_neg h1, if_pos h2])
   clear h1
   go_enter Try.func31, Try.ntmps31
   go_wp2_with (first
    | (go_at_call 34; (with_reducible refine (refright_calls A0 c0 l0 _ HR.out HC.out HL.out).mono ?_); rintro e w1 ⟨rfl, hb⟩; have n0_ := Aside0.mk (below_step (by repeat (first | exact HB.out | apply below_alloc | apply pw_below_drewN | apply below_drew1)) hb); have n1_ := Aside0.mk (Sep.below (by repeat (first | exact HS.out | apply sep_alloc | apply sep_drewN | apply sep_drew)) hb); clear HB HS; have HB := n0_; have HS := n1_; clear n0_ n1_ hb))
   go_ret2
   refine ⟨.slice none 0 0, by rw [HE.out]; rfl, ?_, (by repeat (first | exact HB.out | apply below_alloc | apply pw_below_drewN | apply below_drew1))⟩
   rw [HE.out]
   exact Kd.R_nil _ _ _ _ _
  ·have HE := Aside0.mk (show putR l0 = (putB l0, 0) by unfold putR; rw [if_neg h1, if_neg h2])
   have h2t : rightB l0 = true := by simpa using h2
   have hcv : IntKind.u64.wrap (l0.length : Int) = (l0.length : Int) := w_u64 (by omega) (by omega)
   obtain ⟨ts, hts⟩ : ∃ x, x = l0.map (·.f0) := ⟨_, rfl⟩
   obtain ⟨vs, hvs⟩ : ∃ x, x = l0.map (·.f1) := ⟨_, rfl⟩
   obtain ⟨xs, hxs⟩ : ∃ x, x = secs 0 0 ts := ⟨_, rfl⟩
   obtain ⟨ys, hys⟩ : ∃ x, x = secs 0 0 vs := ⟨_, rfl⟩
   have HTS := Aside0.mk hts
   have HVS := Aside0.mk hvs
   have HXS := Aside0.mk hxs
   have HYS := Aside0.mk hys
   have HTL := Aside0.mk (show ts.length = l0.length by rw [hts, List.length_map])
   have HVL := Aside0.mk (show vs.length = l0.length by rw [hvs, List.length_map])
   have HXL := Aside0.mk (show xs.length = l0.length by rw [hxs, secs_length, HTL.out])
   have HYL := Aside0.mk (show ys.length = l0.length by rw [hys, secs_length, HVL.out])
   have HMX := Aside0.mk (show marks xs ys = marksP 0 0 0 0 l0 by rw [hxs, hys, hts, hvs]; rfl)
   have HFX := Aside0.mk (show ∀ i, i < l0.length → fits64 (rd xs (i : Int)) ∧ fits64 (rd ys (i : Int)) from fun i hi => by
    rw [rd_get, rd_get, hxs, hys, secs_get _ _ _ _ (by rw [HTL.out]; exact hi), secs_get _ _ _ _ (by rw [HVL.out]; exact hi)]
    constructor <;> (repeat' split) <;> exact fits_wrap _)
   clear h1 h2 hts hvs hxs hys
   go_enter Try.func31, Try.ntmps31
   go_wp2_with (first
    | (go_at_call 34; (with_reducible refine (refright_calls A0 c0 l0 _ HR.out HC.out HL.out).mono ?_); rintro e w1 ⟨rfl, hb⟩; have n0_ := Aside0.mk (below_step (by repeat (first | exact HB.out | apply below_alloc | apply pw_below_drewN | apply below_drew1)) hb); have n1_ := Aside0.mk (Sep.below (by repeat (first | exact HS.out | apply sep_alloc | apply sep_drewN | apply sep_drew)) hb); clear HB HS; have HB := n0_; have HS := n1_; clear n0_ n1_ hb)
    | ((with_reducible refine gate_dst (N := 18) rfl ?_); (try (refine gate_guard (by rfl) ?_; dsimp only)); refine goesL_ (some 18) rfl rfl Try.func66 (by kernel_rfl) rfl #[.slice A0 l0.length c0] rfl (by (try simp only [List.map_toArray, List.map_cons, List.map_nil]); first | done | rfl) ?_; (with_reducible refine (split_calls A0 c0 l0 _ (Kd.C_below HR.out HB.out) HC.out (by have := H1.out; omega)).mono ?_); rintro e w2 ⟨v0, v1, rfl, ho0, ho1, hb⟩; refine ⟨_, rfl, ?_⟩; rw [← HTS.out] at ho0; rw [← HVS.out] at ho1; obtain ⟨A1, c1, e1⟩ := Kd.R_slice ho0; obtain ⟨A2, c2, e2⟩ := Kd.R_slice ho1; rw [HTL.out] at e1; rw [HVL.out] at e2; subst e1 e2; obtain ⟨F1, F2, hs_⟩ := Sep.newrow2 (by repeat (first | exact HS.out | apply sep_alloc | apply sep_drewN | apply sep_drew)) hb (below_size (by repeat (first | exact HB.out | apply below_alloc | apply pw_below_drewN | apply below_drew1))) rfl rfl ho0 ho1; have n0_ := Aside0.mk (below_step (by repeat (first | exact HB.out | apply below_alloc | apply pw_below_drewN | apply below_drew1)) hb); clear HB HS hb ho0 ho1; have HB := n0_; have HS := Aside0.mk hs_; clear n0_ hs_)
    | ((with_reducible refine gate_dst (N := 22) rfl ?_); (try (refine gate_guard (by rfl) ?_; dsimp only)); refine goesL_ (some 22) rfl rfl Try.func38 (by kernel_rfl) rfl #[.slice A1 l0.length c1] rfl (by (try simp only [List.map_toArray, List.map_cons, List.map_nil]); first | done | rfl) ?_; (with_reducible refine (refsecs_n A1 c1 l0.length ts xs _ HTL.out HXS.out (Kd.R_reads' (Sep.R HS.out)).2.2 (Kd.R_reads' (Sep.R HS.out)).2.1 (by have := H1.out; omega)).mono ?_); rintro e w3 ⟨v, rfl, ho, hb⟩; refine ⟨_, rfl, ?_⟩; obtain ⟨A3, c3, e_⟩ := Kd.R_slice ho; rw [HXL.out] at e_; subst e_; obtain ⟨F3, hs_⟩ := Sep.newrow (by repeat (first | exact HS.out | apply sep_alloc | apply sep_drewN | apply sep_drew)) hb (below_size (by repeat (first | exact HB.out | apply below_alloc | apply pw_below_drewN | apply below_drew1))) ho; have n0_ := Aside0.mk (below_step (by repeat (first | exact HB.out | apply below_alloc | apply pw_below_drewN | apply below_drew1)) hb); clear HB HS hb ho; have HB := n0_; have HS := Aside0.mk hs_; clear n0_ hs_)
    | ((with_reducible refine gate_dst (N := 24) rfl ?_); (try (refine gate_guard (by rfl) ?_; dsimp only)); refine goesL_ (some 24) rfl rfl Try.func38 (by kernel_rfl) rfl #[.slice A2 l0.length c2] rfl (by (try simp only [List.map_toArray, List.map_cons, List.map_nil]); first | done | rfl) ?_; (with_reducible refine (refsecs_n A2 c2 l0.length vs ys _ HVL.out HYS.out (Kd.R_reads' (Sep.R HS.out.p3)).2.2 (Kd.R_reads' (Sep.R HS.out.p3)).2.1 (by have := H1.out; omega)).mono ?_); rintro e w4 ⟨v, rfl, ho, hb⟩; refine ⟨_, rfl, ?_⟩; obtain ⟨A4, c4, e_⟩ := Kd.R_slice ho; rw [HYL.out] at e_; subst e_; obtain ⟨F4, hs_⟩ := Sep.newrow (by repeat (first | exact HS.out | apply sep_alloc | apply sep_drewN | apply sep_drew)) hb (below_size (by repeat (first | exact HB.out | apply below_alloc | apply pw_below_drewN | apply below_drew1))) ho; have n0_ := Aside0.mk (below_step (by repeat (first | exact HB.out | apply below_alloc | apply pw_below_drewN | apply below_drew1)) hb); clear HB HS hb ho; have HB := n0_; have HS := Aside0.mk hs_; clear n0_ hs_)
    | ((with_reducible refine gate_dst (N := 26) rfl ?_); (try (refine gate_guard (by rfl) ?_; dsimp only)); refine box_event ?hg (N := 26) ?hd (cs := #[.slice none 0 0]) (t := 30) ?hr ?_; (case hd => rfl); (case hg => rfl); (case hr => first | (go_simp; done) | (go_simp; rfl)); intro g hg w5 hbox hb; obtain ⟨F5, hs0⟩ := Sep.newref (by repeat (first | exact HS.out | apply sep_alloc | apply sep_drewN | apply sep_drew)) hb (Nat.le_of_eq hg.symm) (below_size (by repeat (first | exact HB.out | apply below_alloc | apply pw_below_drewN | apply below_drew1))) hbox; have n0_ := Aside0.mk (below_step (by repeat (first | exact HB.out | apply below_alloc | apply pw_below_drewN | apply below_drew1)) hb); clear HB HS hg hbox hb; have HB := n0_; have HS := Aside0.mk hs0; clear n0_ hs0))
   have n0_ := HS.out.drop4.drop4
   clear HS
   have HS := Aside0.mk n0_
   clear n0_
   go_loopg [9] l0.length (fun kq v9 w' => ∃ (j : Nat) (L : List Bool) (F : Nat → Prop), v9 = .int .i64 (j : Int) ∧ Aside0 (kq + j = l0.length ∧ L.length ≤ 136 * j ∧ L = marks (xs.take j) (ys.take j)) ∧ Aside0 (Sep w.heap.size w' [refR w.heap.size g L F, row F4 (Kd.int .i64) 3 w.heap.size (.slice A4 l0.length c4) ys, row F3 (Kd.int .i64) 3 w.heap.size (.slice A3 l0.length c3) xs]) ∧ Aside0 (Below w.heap.size w w'))
   case atStart => exact ⟨0, [], F5, rfl, ⟨by omega, by simp, by simp [marks]⟩, HS, HB⟩
   case round =>
    clear HS HB
    obtain ⟨j, L, F, rfl, HI, HS, HB⟩ := hrel
    by_cases hlt : j < l0.length
    ·obtain ⟨k1, rfl⟩ : ∃ m, gk = m + 1 := ⟨gk - 1, by have := HI.out; omega⟩
     have c1b : decide ((j : Int) < (l0.length : Int)) = true := decide_eq_true (by omega)
     have c1n : decide (j < l0.length) = true := decide_eq_true hlt
     have hnx : wrap64 ((j : Int) + 1) = ((j + 1 : Nat) : Int) := by have := H1.out; rw [w64 (by omega) (by omega)]; simp
     obtain ⟨ad4, e4, hy0⟩ := Kd.at_int (Kd.R_reads' (Sep.R HS.out.p2)).2.2 (j : Int) (by omega) (by rw [HYL.out]; omega)
     obtain ⟨ad3, e3, hx0⟩ := Kd.at_int (Kd.R_reads' (Sep.R HS.out.p3)).2.2 (j : Int) (by omega) (by rw [HXL.out]; omega)
     subst e4
     subst e3
     rw [Int.toNat_natCast] at hx0 hy0
     have hms := marks_step xs ys j (by rw [HXL.out]; exact hlt) (by rw [HYL.out]; exact hlt)
     obtain ⟨s0, hs0⟩ : ∃ s, s = rd xs (j : Int) := ⟨_, rfl⟩
     obtain ⟨s1, hs1⟩ : ∃ s, s = rd ys (j : Int) := ⟨_, rfl⟩
     have hfx := HFX.out j hlt
     rw [← hs0] at hx0 hms hfx
     rw [← hs1] at hy0 hms hfx
     have HMS := Aside0.mk hms
     have HE1 := Aside0.mk hs1
     have HF0 := Aside0.mk hfx.1
     have HF1 := Aside0.mk hfx.2
     have HX := Aside0.mk hnx
     have HLL := Aside0.mk (show L.length + 136 ≤ 262144 by have := HI.out; have := H1.out; omega)
     have c4 := eq_true hlt
     have c5 := eq_true (show (j : Int) < (l0.length : Int) by omega)
     have c6 := eq_true (show 0 ≤ (j : Int) by omega)
     clear hnx hlt hms hs0 hs1 hfx
     go_wp2_with (first
      | ((with_reducible refine gate_dst (N := 38) rfl ?_); (try (refine gate_guard (by rfl) ?_; dsimp only)); refine goesL_ (some 38) rfl rfl Try.func67 (by kernel_rfl) rfl #[.pointer (some ⟨g, 0, none⟩), .int .i64 s0] rfl (by (try simp only [List.map_toArray, List.map_cons, List.map_nil]); first | done | rfl) ?_; (with_reducible refine (refmark_calls g F L s0 w _ HB.out HS.out.own HF0.out (by have := HLL.out; omega)).mono ?_); rintro e w7 ⟨rfl, ht⟩; refine ⟨_, rfl, ?_⟩; obtain ⟨F2, hs_⟩ := Turned.sep ht (HS.out) rfl; have n0_ := Aside0.mk (Turned.below ht); clear HB HS ht; have HB := n0_; have HS := Aside0.mk hs_; clear n0_ hs_; clear hx0 hy0; obtain ⟨ad_, e_, hy0⟩ := Kd.at_int (Kd.R_reads' (Sep.R HS.out.p2)).2.2 (j : Int) (of_eq_true c6) (by rw [HYL.out]; exact of_eq_true c5); cases e_; rw [Int.toNat_natCast, ← HE1.out] at hy0)
      | ((with_reducible refine gate_dst (N := 44) rfl ?_); (try (refine gate_guard (by rfl) ?_; dsimp only)); refine goesL_ (some 44) rfl rfl Try.func67 (by kernel_rfl) rfl #[.pointer (some ⟨g, 0, none⟩), .int .i64 s1] rfl (by (try simp only [List.map_toArray, List.map_cons, List.map_nil]); first | done | rfl) ?_; (with_reducible refine (refmark_calls g F2 (L ++ markB s0) s1 w _ HB.out HS.out.own HF1.out (by have := HLL.out; have := markB_length s0; rw [List.length_append]; omega)).mono ?_); rintro e w9 ⟨rfl, ht⟩; refine ⟨_, rfl, ?_⟩; obtain ⟨F3b, hs_⟩ := Turned.sep ht (HS.out) rfl; have n0_ := Aside0.mk (Turned.below ht); clear HB HS ht; have HB := n0_; have HS := Aside0.mk hs_; clear n0_ hs_))
     go_roundg k1
     case measure => omega
     case rel => exact ⟨j + 1, L ++ markB s0 ++ markB s1, F3b, (by first | rfl | rw [HX.out]), ⟨by have := HI.out; omega, by
      have h1 := markB_length s0
      have h2 := markB_length s1
      have := HI.out
      rw [List.length_append, List.length_append]; omega, by
      rw [HMS.out, ← HI.out.2.2]⟩, HS, HB⟩
    ·have c1b : decide ((j : Int) < (l0.length : Int)) = false := decide_eq_false (by omega)
     have c1n : decide (j < l0.length) = false := decide_eq_false hlt
     have hL : L = marksP 0 0 0 0 l0 := by
      have := HI.out.2.2
      rw [List.take_of_length_le (by rw [HXL.out]; omega), List.take_of_length_le (by rw [HYL.out]; omega)] at this
      rw [this, HMX.out]
     have HLM := Aside0.mk hL
     have HLN := Aside0.mk (show L.length ≤ 262144 by have := HI.out; have := H1.out; omega)
     have hm : 1 ≤ (varint l0.length).length ∧ (varint l0.length).length ≤ 10 := varint_le 9 _ (by have := H1.out; omega)
     have HVN := Aside0.mk hm
     clear hlt hL hm
     go_wp2_with (first
      | ((with_reducible refine gate_dst (N := 48) rfl ?_); (try (refine gate_guard (by rfl) ?_; dsimp only)); refine goesL_ (some 48) rfl rfl Try.func68 (by kernel_rfl) rfl #[.slice none 0 0, .int .u64 (l0.length : Int)] rfl (by (try simp only [List.map_toArray, List.map_cons, List.map_nil]); first | done | rfl) ?_; (with_reducible refine (ref1put_nil l0.length _ (by have := H1.out; omega)).mono ?_); rintro e w8 ⟨v, rfl, ho, hb⟩; refine ⟨_, rfl, ?_⟩; obtain ⟨A5, c5_, e_⟩ := Kd.R_slice ho; subst e_; obtain ⟨F5_, hs_⟩ := Sep.newrow (by repeat (first | exact HS.out | apply sep_alloc | apply sep_drewN | apply sep_drew)) hb (below_size (by repeat (first | exact HB.out | apply below_alloc | apply pw_below_drewN | apply below_drew1))) ho; have n0_ := Aside0.mk (below_step (by repeat (first | exact HB.out | apply below_alloc | apply pw_below_drewN | apply below_drew1)) hb); clear HB HS hb ho; have HB := n0_; have HS := Aside0.mk hs_; clear n0_ hs_)
      | ((with_reducible refine gate_dst (N := 50) rfl ?_); (try (refine gate_guard (by rfl) ?_; dsimp only)); refine goesL_ (some 50) rfl rfl Try.func26 (by kernel_rfl) rfl #[.pointer (some ⟨g, 0, none⟩)] rfl (by (try simp only [List.map_toArray, List.map_cons, List.map_nil]); first | done | rfl) ?_; (with_reducible refine (refbytes_calls w.heap.size g F L _ HS.out.p2.own HLN.out).mono ?_); rintro e w9 ⟨v, rfl, ho, hb⟩; refine ⟨_, rfl, ?_⟩; obtain ⟨A6, c6_, e_⟩ := Kd.R_slice ho; subst e_; obtain ⟨F6_, hs_⟩ := Sep.newrow (by repeat (first | exact HS.out | apply sep_alloc | apply sep_drewN | apply sep_drew)) hb (below_size (by repeat (first | exact HB.out | apply below_alloc | apply pw_below_drewN | apply below_drew1))) ho; have n0_ := Aside0.mk (below_step (by repeat (first | exact HB.out | apply below_alloc | apply pw_below_drewN | apply below_drew1)) hb); clear HB HS hb ho; have HB := n0_; have HS := Aside0.mk hs_; clear n0_ hs_)
      | ((with_reducible refine gate_builtin (b := .append) (xs := #[.tmp 48, .tmp 50]) rfl ?_); (refine wp_append_row (Kd.int .u8) (w0 := w) rfl (.tmp 48) (.tmp 50) 24 5 (.int .u8 0) 1 rfl Try.underlying24 info5 rfl (by decide) (by omega) (pack L) _ _ _ HS.out.p2 (Kd.R_reads' (Sep.R HS.out)).2.2 (fun _ _ h => h) (by repeat (first | exact HB.out | apply below_alloc | apply pw_below_drewN | apply below_drew1)) (by have := HVN.out; have := HLN.out; rw [pack_length]; omega) rfl rfl ?_); (intro v_ w_ F_ hs_ hb_); (obtain ⟨O1, hy_⟩ : ∃ y_, y_ = (varint l0.length) ++ (pack L) := ⟨_, rfl⟩; rw [← hy_] at hs_; have HO1 := Aside0.mk hy_; clear hy_ HB HS; have HB := Aside0.mk hb_; have HS := Aside0.mk hs_; clear hs_ hb_; obtain ⟨A_, c_, e_⟩ := Kd.R_slice (Sep.R HS.out); subst e_); (skip)))
     go_ret2
     refine ⟨_, by rw [HE.out]; rfl, ?_, HB.out⟩
     rw [HE.out]
     show Kd.R _ _ _ _ _ _ (putB l0)
     have : O1 = putB l0 := by rw [HO1.out, HLM.out]; rfl
     rw [← this]
     exact Kd.R_mono (Sep.R HS.out) (fun _ _ => trivial)
end Go.Proofs.Ythkpnnbjcendcaa.Sc
end
end
section
open Go.RowKit Go.Proofs.Ythkpnnbjcendcaa.X Go.Proofs.Ythkpnnbjcendcaa.Pl Go.Proofs.Ythkpnnbjcendcaa.Sp Go.Proofs.Ythkpnnbjcendcaa.Sc Go.Proofs.Ythkpnnbjcendcaa.Pure Go.Proofs.YthkpnnbjcendcaaW.PrintWords Go.Proofs.YthkpnnbjcendcaaW.PrintLast Go.Proofs.YthkpnnbjcendcaaW.PrintMore
namespace Go.Proofs.Ythkpnnbjcendcaa.Sc
theorem rput_named (A0 : Option Addr) (c0 : Nat) (l0 : List S52) (O : List Int) (q : Int) (w : World) (ho : (putR l0).1 = O) (hq : (putR l0).2 = q) (hr0 : Kd.C k52 w A0 l0.length l0) (hc0 : l0.length ≤ c0) (hl : l0.length < 4611686018427387904) :
  Calls Try.prog 31 #[.slice A0 l0.length c0] w fun e w' => ∃ v, e = .returned (.tuple #[v, .int .i64 q]) ∧ Kd.R (Kd.int .u8) 5 w' w.heap.size (fun _ => True) v O ∧ Below w.heap.size w w' := by
 subst ho hq
 exact rput_calls A0 c0 l0 w hr0 hc0 hl
theorem right_named (A0 : Option Addr) (c0 : Nat) (l0 : List S52) (b : Bool) (w : World) (hb : rightB l0 = b) (hr0 : Kd.C k52 w A0 l0.length l0) (hc0 : l0.length ≤ c0) (hl : l0.length < 4611686018427387904) :
  Calls Try.prog 33 #[.slice A0 l0.length c0] w fun e w' => e = .returned (.bool b) ∧ Below w.heap.size w w' := hb ▸ right_calls A0 c0 l0 w hr0 hc0 hl
end Go.Proofs.Ythkpnnbjcendcaa.Sc
namespace Go.Proofs.Ythkpnnbjcendcaa.X
end Go.Proofs.Ythkpnnbjcendcaa.X
end
section
open Go.RowKit Go.Proofs.Ythkpnnbjcendcaa.X Go.Proofs.Ythkpnnbjcendcaa.Pl Go.Proofs.YthkpnnbjcendcaaW.PrintWords Go.Proofs.YthkpnnbjcendcaaW.PrintLast Go.Proofs.YthkpnnbjcendcaaW.PrintMore
namespace Go.Proofs.Ythkpnnbjcendcaa.Pure
theorem str_inj {xs ys : List Int} (hx : Byt xs) (hy : Byt ys) : strOfNums xs = strOfNums ys ↔ xs = ys := by
 constructor
 ·intro h
  have h1 : (xs.map fun n => UInt8.ofNat n.toNat) = ys.map fun n => UInt8.ofNat n.toNat := by
   rw [← strOfNums_data, ← strOfNums_data, h]
  have key : ∀ l : List Int, Byt l → (l.map fun n => UInt8.ofNat n.toNat).map (fun c => ((c.toNat : Nat) : Int)) = l := by
   intro l hl
   rw [List.map_map]
   conv => rhs; rw [← List.map_id l]
   refine List.map_congr_left fun n hn => ?_
   have := hl n hn
   simp only [Function.comp, id]
   rw [UInt8.toNat_ofNat']
   omega
  rw [← key xs hx, ← key ys hy, h1]
 ·rintro rfl
  rfl
theorem bytes_eq {a b : ByteArray} (h : a = b) : (a.toList == b.toList) = true := by subst h; exact beq_self_eq_true _
theorem bytes_ne {a b : ByteArray} (h : a ≠ b) : (a.toList == b.toList) = false := by
 rw [beq_eq_false_iff_ne, ByteArray.toList_eq, ByteArray.toList_eq]
 intro e
 apply h
 cases a; cases b
 congr 1
 exact Array.toList_inj.1 e
theorem varint_byt (n : Nat) : Byt (varint n) := by
 induction n using Nat.strongRecOn with
 | _ n ih =>
  intro x hx
  by_cases h : n < 128
  ·rw [varint_small h] at hx
   obtain rfl := List.mem_singleton.1 hx
   omega
  ·rw [varint_big h] at hx
   rcases List.mem_cons.1 hx with rfl | hx
   ·omega
   ·exact ih (n / 128) (by omega) x hx
end Go.Proofs.Ythkpnnbjcendcaa.Pure
end
section
open Go.RowKit Go.Proofs.Ythkpnnbjcendcaa.X Go.Proofs.Ythkpnnbjcendcaa.Pl Go.Proofs.Ythkpnnbjcendcaa.Sp Go.Proofs.Ythkpnnbjcendcaa.Pure Go.Proofs.YthkpnnbjcendcaaW.PrintWords Go.Proofs.YthkpnnbjcendcaaW.PrintLast Go.Proofs.YthkpnnbjcendcaaW.PrintMore
namespace Go.Proofs.Ythkpnnbjcendcaa.Pure
theorem ref_step {b : List Int} {i n k x z n1 k1 : Nat} (hi : i ≤ 9) (hk : k = 128 ^ i) (hs : Some7 b i n) (hlt : i < b.length) (hx : b.getD i 0 = (x : Int)) (hx2 : x < 256) (hz : z = x % 128 * k % 2 ^ 64) (hn1 : n1 = (n + z) % 2 ^ 64) (hk1 : k1 = k * 128 % 2 ^ 64) :
  (x < 128 → (varint n1 = b.take (i + 1) → b = varint n1 ++ b.drop (i + 1)) ∧ (varint n1 ≠ b.take (i + 1) → ∀ (m : Nat) (r : List Int), m < 2 ^ 64 → b ≠ varint m ++ r)) ∧
  (128 ≤ x → (i + 1 ≤ 9 ∧ k1 = 128 ^ (i + 1) ∧ Some7 b (i + 1) n1 ∨ i + 1 = 10 ∧ ∀ (m : Nat) (r : List Int), m < 2 ^ 64 → b ≠ varint m ++ r)) := by
 have hn2 : n1 = (n + x % 128 * 128 ^ i) % 2 ^ 64 := by rw [hn1, hz, hk, Nat.add_mod_mod]
 have hsp : b = b.take (i + 1) ++ b.drop (i + 1) := (List.take_append_drop _ _).symm
 refine ⟨fun h128 => ⟨fun h => by rw [h]; exact hsp, fun h m r hm e => h ?_⟩, fun h128 => ?_⟩
 ·obtain ⟨h1, h2, h3⟩ := (some_end hs hlt hx h128 m r).1 e
  have hnm : n1 = m := by rw [hn2, Nat.mod_eq_of_lt h128, ← h1, Nat.mod_eq_of_lt hm]
  rw [hnm]
  rw [h3] at e
  exact List.append_cancel_right (e.symm.trans hsp)
 ·by_cases h9 : i = 9
  ·subst h9
   exact .inr ⟨rfl, fun m r hm => some_ten hs hlt hx (by omega) hx2 m r hm⟩
  ·refine .inl ⟨by omega, ?_, ?_⟩
   ·have : (128 : Nat) ^ i ≤ 128 ^ 8 := Nat.pow_le_pow_right (by decide) (by omega)
    rw [show (128 : Nat) ^ 8 = 72057594037927936 from by decide] at this
    rw [hk1, hk, Nat.mod_eq_of_lt (by omega)]
    exact (Nat.pow_succ 128 i).symm
   ·have hm := some_more hs hlt hx h128 hx2
    have h1 := hm.1
    have : (128 : Nat) ^ (i + 1) ≤ 128 ^ 9 := Nat.pow_le_pow_right (by decide) (by omega)
    rw [show (128 : Nat) ^ 9 = 9223372036854775808 from by decide] at this
    rw [hn2, Nat.mod_eq_of_lt (by omega)]
    exact hm
end Go.Proofs.Ythkpnnbjcendcaa.Pure
namespace Go.Proofs.Ythkpnnbjcendcaa.Sc
abbrev rtR (g : Nat) (v : Value) (bad : Bool) : Res := box g #[v, .bool bad] 104
set_option maxRecDepth 100000 in
theorem rfail_calls (g : Nat) (v : Value) (bad : Bool) (w0 w : World) (hB : Below w0.heap.size w0 w) (hO : Own w0.heap.size w (rtR g v bad)) :
  Calls Try.prog 103 #[.pointer (some ⟨g, 0, none⟩)] w fun e w' => e = .returned (.tuple #[]) ∧ Turned w0 w w' (fun k => k = g) (fun _ => rtR g (.slice none 0 0) true) := by
 have HB := Aside0.mk hB
 have HS := Aside0.mk (Sep.start hO)
 have hc0 := Sep.c20 HS.out
 have hc1 := Sep.c21 HS.out
 have hf0 := Sep.free HS.out 0
 have hf1 := Sep.free HS.out 1
 clear hB hO
 go_enter Try.func103, Try.ntmps103
 go_wp2
 first | go_end0 | ((try simp only [Exit.inBlock, Exit.then]); refine bodyPost_ret (results_none rfl _ _ _) rfl ?_)
 exact ⟨rfl, Turned.of_sep (mk := fun _ => rtR g (.slice none 0 0) true) (F' := fun _ => True) ((HS.out.s21 _).s20 _) HB.out (below_set (below_set HB.out HS.out.ge) HS.out.ge)⟩
set_option maxHeartbeats 8000000 in
set_option maxRecDepth 100000 in
theorem rnum_calls (g : Nat) (A : Option Addr) (c : Nat) (b : List Int) (bad : Bool) (w0 w : World) (hB : Below w0.heap.size w0 w) (hO : Own w0.heap.size w (rtR g (.slice A b.length c) bad)) (hr : Kd.C (Kd.int .u8) w A b.length b) (hc : b.length ≤ c) (hby : Byt b) (hl : b.length < 1000000) :
  Calls Try.prog 79 #[.pointer (some ⟨g, 0, none⟩)] w fun e w' => NumR (rtR g) g A b bad w0 w e w' := by
 have HB0 := Aside0.mk hB
 have HB := Aside0.mk hB
 have HS := Aside0.mk (Sep.start hO)
 have HR := Aside0.mk hr
 have HC := Aside0.mk hc
 have HBY := Aside0.mk hby
 have HL := Aside0.mk hl
 clear hB hO hr hc hby hl
 go_enter Try.func79, Try.ntmps79
 go_wp2
 have HW := Aside0.mk (Below.refl w.heap.size w)
 go_loopg [3, 4, 5] 10 (fun kq v3 v4 v5 w' => ∃ (i n k : Nat), v3 = .int .u64 (n : Int) ∧ v4 = .int .u64 (k : Int) ∧ v5 = .int .i64 (i : Int) ∧ Aside0 (kq + i = 10 ∧ n < 2 ^ 64 ∧ k < 2 ^ 64 ∧ (i ≤ 9 ∧ k = 128 ^ i ∧ Some7 b i n ∨ i = 10 ∧ ∀ (m : Nat) (r : List Int), m < 2 ^ 64 → b ≠ varint m ++ r)) ∧ Aside0 (Sep w0.heap.size w' [rtR g (.slice A b.length c) bad, frameR w0.heap.size w (rtR g (.slice A b.length c) bad).foot]) ∧ Aside0 (Below w0.heap.size w0 w') ∧ Aside0 (Below w.heap.size w w'))
 case atStart => exact ⟨0, 0, 1, rfl, rfl, rfl, ⟨by omega, by decide, by decide, .inl ⟨by omega, by simp, some_start b⟩⟩, HS, HB, HW⟩
 case round =>
  clear HS HB HW
  obtain ⟨i, n, k, rfl, rfl, rfl, HI, HS, HB, HW⟩ := hrel
  have hc0 := Sep.c20 HS.out
  have hc1 := Sep.c21 HS.out
  have hf0 := Sep.free HS.out 0
  have hi10 : i ≤ 10 := by have := HI.out; omega
  by_cases hlt : i < b.length ∧ i < 10
  ·obtain ⟨hlt, hi9⟩ := hlt
   have c1b : decide ((i : Int) < (b.length : Int)) = true := decide_eq_true (by omega)
   have c1n : decide (i < b.length) = true := decide_eq_true hlt
   have c2b : decide ((i : Int) < 10) = true := decide_eq_true (by omega)
   have c2n : decide (i < 10) = true := decide_eq_true hi9
   have hs7 : i ≤ 9 ∧ k = 128 ^ i ∧ Some7 b i n := by
    rcases HI.out.2.2.2 with h | h
    ·exact h
    ·omega
   obtain ⟨hi9', hk, hs7⟩ := hs7
   have hby := HBY.out (b.getD i 0) (by rw [getD_lt _ _ _ hlt]; exact List.getElem_mem _)
   obtain ⟨x, hx⟩ : ∃ x : Nat, b.getD i 0 = (x : Int) := ⟨(b.getD i 0).toNat, by omega⟩
   have hx256 : x < 256 := by omega
   obtain ⟨ad, e1, hx0⟩ := Kd.at_int HR.out (i : Int) (by omega) (by omega)
   cases e1
   rw [Int.toNat_natCast, rd_get, hx] at hx0
   replace hx0 := (HW.out.cell (World.block_lt_of_cell? w _ hx0)).trans hx0
   have c4 := eq_true hlt
   have c5 := eq_true (show (i : Int) < (b.length : Int) by omega)
   have c6 := eq_true (show 0 ≤ (i : Int) by omega)
   obtain ⟨y, hy⟩ : ∃ y, y = x % 128 := ⟨_, rfl⟩
   have hr1 : IntKind.u8.wrap (Int.tmod (x : Int) 128) = (y : Int) := by rw [tmod_pos (by omega), IntKind.wrap_u8']; omega
   have hr2 : Int.tmod (x : Int) 128 = (y : Int) := by rw [tmod_pos (by omega)]; omega
   have hr3 : IntKind.u64.wrap (y : Int) = (y : Int) := w_u64 (by omega) (by omega)
   have hr3b : IntKind.u8.wrap (y : Int) = (y : Int) := by rw [IntKind.wrap_u8']; omega
   have hr3c : (x : Int) % 128 = (y : Int) := by omega
   obtain ⟨z, hz⟩ : ∃ z, z = y * k % 2 ^ 64 := ⟨_, rfl⟩
   have hr4 : IntKind.u64.wrap ((y : Int) * (k : Int)) = (z : Int) := by rw [u64_wrap, hz, ← Int.natCast_mul]; omega
   obtain ⟨n1, hn1⟩ : ∃ m, m = (n + z) % 2 ^ 64 := ⟨_, rfl⟩
   have hr5 : IntKind.u64.wrap ((n : Int) + (z : Int)) = (n1 : Int) := by rw [u64_wrap, hn1]; omega
   obtain ⟨k1, hk1⟩ : ∃ m, m = k * 128 % 2 ^ 64 := ⟨_, rfl⟩
   have hr6 : IntKind.u64.wrap ((k : Int) * 128) = (k1 : Int) := by rw [u64_wrap, hk1]; omega
   have HRR := Aside0.mk (And.intro hr1 (And.intro hr2 (And.intro hr3 (And.intro hr3b (And.intro hr3c (And.intro hr4 (And.intro hr5 hr6)))))))
   clear hr1 hr2 hr3 hr3b hr3c hr4 hr5 hr6
   have hst := ref_step hi9' hk hs7 hlt hx hx256 (by rw [← hy]; exact hz) hn1 hk1
   have HN64 := Aside0.mk (show n1 < 2 ^ 64 by rw [hn1]; exact Nat.mod_lt _ (by decide))
   have HK64 := Aside0.mk (show k1 < 2 ^ 64 by rw [hk1]; exact Nat.mod_lt _ (by decide))
   obtain ⟨i1, hi1⟩ : ∃ j, j = i + 1 := ⟨_, rfl⟩
   have hnx : wrap64 ((i : Int) + 1) = (i1 : Int) := by rw [w64 (by omega) (by omega)]; omega
   rw [← hi1] at hst
   have HST := Aside0.mk hst
   have HI1 := Aside0.mk hi1
   clear hst hs7 hk hz hn1 hk1
   by_cases hx128 : x < 128
   ·have c7 : decide ((x : Int) < 128) = true := decide_eq_true (by omega)
    have c7n : decide (x < 128) = true := decide_eq_true hx128
    obtain ⟨i05, hi05, _, hsz5, _⟩ := info_parts info5
    have hto := cut_to (P := Try.prog) 24 5 .i64 Try.underlying24 hi05 (some ad) b.length c (i1 : Int) (by omega) (by omega) HC.out
    have hfr := cut_from (P := Try.prog) 24 5 .i64 Try.underlying24 hi05 1 hsz5 (some ad) b.length c (i1 : Int) (by omega) (by omega)
    obtain ⟨r, hr⟩ : ∃ r, r = b.drop i1 := ⟨_, rfl⟩
    have HRL := Aside0.mk (show b.length - i1 = r.length by rw [hr, List.length_drop])
    obtain ⟨A4, hA4⟩ : ∃ A, A = (if c = i1 then (some ad : Option Addr) else (some ad).map (fun x => x.add (i1 * 1))) := ⟨_, rfl⟩
    have HCD := Aside0.mk (show ∀ w2, Kd.C (Kd.int .u8) w2 (some ad) b.length b → Kd.C (Kd.int .u8) w2 A4 r.length r from fun w2 h2 => by rw [hA4, hr]; exact Kd.C_drop (m := i1) h2 (by omega) HC.out)
    obtain ⟨c4_, hc4⟩ : ∃ x, x = c - i1 := ⟨_, rfl⟩
    have HC4 := Aside0.mk (show r.length ≤ c4_ by have := HC.out; rw [hc4, ← HRL.out]; omega)
    rw [Int.toNat_natCast] at hto
    rw [Int.toNat_natCast, ← hA4, HRL.out, ← hc4] at hfr
    have k1_ := eq_true (show i1 ≤ b.length by omega)
    have k1i := eq_true (show (i1 : Int) ≤ (b.length : Int) by omega)
    have k2i := eq_true (show 0 ≤ (i1 : Int) by omega)
    obtain ⟨V, hV⟩ : ∃ V, V = varint n1 := ⟨_, rfl⟩
    obtain ⟨U, hU⟩ : ∃ U, U = b.take i1 := ⟨_, rfl⟩
    have hUl : U.length = i1 := by rw [hU, List.length_take]; omega
    have HU := Aside0.mk (show Kd.C (Kd.int .u8) w (some ad) i1 U by rw [← hUl, hU]; exact C_take' HR.out i1)
    have hVU := str_inj (xs := V) (ys := U) (hV ▸ varint_byt n1) (hU ▸ fun y hy => HBY.out y (List.mem_of_mem_take hy))
    obtain ⟨sV, hsV⟩ : ∃ s, s = strOfNums V := ⟨_, rfl⟩
    obtain ⟨sU, hsU⟩ : ∃ s, s = strOfNums U := ⟨_, rfl⟩
    rw [← hsV, ← hsU] at hVU
    have HSV := Aside0.mk hsV
    have HSU := Aside0.mk hsU
    have HV := Aside0.mk hV
    have hst1 := HST.out.1 hx128
    rw [← hV, ← hU, ← hr] at hst1
    have HS1 := Aside0.mk hst1
    by_cases heq : sV = sU
    ·have c8 := bytes_eq heq
     have HEQ := Aside0.mk (HS1.out.1 (hVU.1 heq))
     clear hlt hby hx hx256 hi10 hi9 hi9' hy hst1 hi1 hUl hV hU hVU hsV hsU hi05 hsz5 hr hA4 hc4 hx128 heq
     obtain ⟨hr1, hr2, hr3, hr3b, hr3c, hr4, hr5, hr6⟩ := HRR.out
     go_wp2
     clear hc0 hc1 hf0
     refine start_ (n := 12) (S := fun w' => w'.cell? ⟨g, 0, none⟩ = some (.slice (some ad) b.length c) ∧ (convert 24 9 (.slice (some ad) i1 c)).run Try.prog w' = .ok (.string sU) w') (ds := []) #[false, false, false, false, false, false, false, false, false, false, false, false] (by kernel_rfl) rfl rfl ⟨Sep.c20 (sep_drew HS.out), (by rw [HSU.out]; exact Kd.C_string Try.underlying24 Try.underlying5 Try.underlying9 (Kd.C_below HU.out (below_drew HW.out)))⟩ (fun hHeld => ?_)
     have n2_ := Aside0.mk (below_drew HW.out)
     clear HW
     have HW := n2_
     clear n2_
     have n0_ := Aside0.mk (below_drew HB.out)
     have n1_ := Aside0.mk (sep_drew HS.out)
     clear HB HS
     have HB := n0_
     have HS := n1_
     clear n0_ n1_
     generalize (World.drew wr) = wd_ at HB HS HW hHeld ⊢
     refine pure_ (i := 0) (N := some 42) (v := ?_) (a' := ?_) #[true, false, false, false, false, false, false, false, false, false, false, false] rfl rfl (by kernel_rfl) (fun _ _ _ h => h) (Or.inl ⟨by rfl, ?_⟩) ?_ ?_
     rotate_left
     ·intro w'
      go_simp
      with_reducible rfl
     rotate_left
     ·simp only [Act.put, sA_, sB_, sC_, i64_w, i32_w]
      rfl
     refine pure_ (i := 3) (N := some 45) (v := ?_) (a' := ?_) #[true, false, false, true, false, false, false, false, false, false, false, false] rfl rfl (by kernel_rfl) (fun _ _ _ h => h) (Or.inl ⟨by rfl, ?_⟩) ?_ ?_
     rotate_left
     ·intro w'
      go_simp
      with_reducible rfl
     rotate_left
     ·simp only [Act.put, sA_, sB_, sC_, i64_w, i32_w]
      rfl
     refine pure_ (i := 4) (N := some 46) (v := ?_) (a' := ?_) #[true, false, false, true, true, false, false, false, false, false, false, false] rfl rfl (by kernel_rfl) (fun _ _ _ h => h) (Or.inl ⟨by rfl, ?_⟩) ?_ ?_
     rotate_left
     ·intro w'
      go_simp
      with_reducible rfl
     rotate_left
     ·simp only [Act.put, sA_, sB_, sC_, i64_w, i32_w]
      rfl
     refine pure_ (i := 5) (N := some 47) (v := ?_) (a' := ?_) #[true, false, false, true, true, true, false, false, false, false, false, false] rfl rfl (by kernel_rfl) (fun _ _ _ h => h) (Or.inl ⟨by rfl, ?_⟩) ?_ ?_
     rotate_left
     ·intro w'
      go_simp
      with_reducible rfl
     rotate_left
     ·simp only [Act.put, sA_, sB_, sC_, i64_w, i32_w]
      rfl
     refine pure_ (i := 7) (N := some 49) (v := ?_) (a' := ?_) #[true, false, false, true, true, true, false, true, false, false, false, false] rfl rfl (by kernel_rfl) (fun _ _ _ h => h) (Or.inl ⟨by rfl, ?_⟩) ?_ ?_
     rotate_left
     ·intro w'
      go_simp
      with_reducible rfl
     rotate_left
     ·simp only [Act.put, sA_, sB_, sC_, i64_w, i32_w]
      rfl
     refine pure_ (i := 8) (N := some 50) (v := ?_) (a' := ?_) #[true, false, false, true, true, true, false, true, true, false, false, false] rfl rfl (by kernel_rfl) (fun _ _ _ h => h) (Or.inl ⟨by rfl, ?_⟩) ?_ ?_
     rotate_left
     ·intro w'
      go_simp
      with_reducible rfl
     rotate_left
     ·simp only [Act.put, sA_, sB_, sC_, i64_w, i32_w]
      rfl
     refine take_ (i := 6) (N := some 48) (v := ?_) (a' := ?_) #[true, false, false, true, true, true, true, true, true, false, false, false] rfl rfl (by kernel_rfl) (fun _ _ _ h => h) (Or.inl ⟨by rfl, ?_⟩) hHeld ?_ ?_
     rotate_left
     ·rintro w' ⟨s0, s1⟩
      go_simp
      with_reducible rfl
     rotate_left
     ·simp only [Act.put, sA_, sB_, sC_, i64_w, i32_w]
      rfl
     refine pure_ (i := 9) (N := some 51) (v := ?_) (a' := ?_) #[true, false, false, true, true, true, true, true, true, true, false, false] rfl rfl (by kernel_rfl) (fun _ _ _ h => h) (Or.inl ⟨by rfl, ?_⟩) ?_ ?_
     rotate_left
     ·intro w'
      go_simp
      with_reducible rfl
     rotate_left
     ·simp only [Act.put, sA_, sB_, sC_, i64_w, i32_w]
      rfl
     refine take_ (i := 10) (N := some 52) (v := ?_) (a' := ?_) #[true, false, false, true, true, true, true, true, true, true, true, false] rfl rfl (by kernel_rfl) (fun _ _ _ h => h) (Or.inl ⟨by rfl, ?_⟩) hHeld ?_ ?_
     rotate_left
     ·rintro w' ⟨s0, s1⟩
      go_simp
      with_reducible rfl
     rotate_left
     ·simp only [Act.put, sA_, sB_, sC_, i64_w, i32_w]
      rfl
     refine one_ (i := 1) (N := some 43) #[true, true, false, true, true, true, true, true, true, true, true, false] rfl rfl (by kernel_rfl) (by decide) (fun K hK => ?_)
     refine goes_ Try.func68 (by kernel_rfl) rfl #[.slice none 0 0, .int .u64 (n1 : Int)] (by rfl) rfl rfl (by first | (simp only [List.map_toArray, List.map_cons, List.map_nil]; done) | (simp only [List.map_toArray, List.map_cons, List.map_nil]; rfl) | rfl) ?_; with_reducible refine (ref1put_nil n1 _ HN64.out).mono ?_; rintro e w8 ⟨v, rfl, ho, hb⟩; refine ⟨_, rfl, ?_⟩
     rw [← HV.out] at ho
     have hcv := own_string (P := Try.prog) Try.underlying24 Try.underlying5 Try.underlying9 (Kd.own_of_R ho)
     rw [← HSV.out] at hcv
     clear ho
     have n2_ := Aside0.mk (below_step HW.out hb); have HW := n2_; clear n2_; have n0_ := Aside0.mk (below_step (by repeat (first | exact HB.out | apply below_alloc | apply pw_below_drewN | apply below_drew1)) hb); have n1_ := Aside0.mk (Sep.below (by repeat (first | exact HS.out | apply sep_alloc | apply sep_drewN | apply sep_drew)) hb); clear HB HS; have HB := n0_; have HS := n1_; clear n0_ n1_ hb
     refine hK.out _ _ ⟨Sep.c20 HS.out, (by rw [HSU.out]; exact Kd.C_string Try.underlying24 Try.underlying5 Try.underlying9 (Kd.C_below HU.out HW.out))⟩ (fun hHeld => ?_)
     clear hK K
     refine norm_ (a' := ?_) ?_ ?_
     rotate_left
     ·show Act.put _ (some 43) _ = _
      simp only [Act.put, sA_, sB_, sC_, i64_w, i32_w]
      rfl
     refine one_ (i := 2) (N := some 44) #[true, true, true, true, true, true, true, true, true, true, true, false] rfl rfl (by kernel_rfl) (by decide) (fun K hK => ?_)
     refine value_ (w1 := ?_) (v := ?_) (by rfl) rfl ?_ ?_
     rotate_left 2
     ·go_simp
      constructor
      ·rfl
      ·rfl
     clear hcv
     refine hK.out _ _ ⟨Sep.c20 HS.out, (by rw [HSU.out]; exact Kd.C_string Try.underlying24 Try.underlying5 Try.underlying9 (Kd.C_below HU.out HW.out))⟩ (fun hHeld => ?_)
     clear hK K
     refine norm_ (a' := ?_) ?_ ?_
     rotate_left
     ·show Act.put _ (some 44) _ = _
      simp only [Act.put, sA_, sB_, sC_, i64_w, i32_w]
      rfl
     refine pure_ (i := 11) (N := some 53) (v := ?_) (a' := ?_) #[true, true, true, true, true, true, true, true, true, true, true, true] rfl rfl (by kernel_rfl) (fun _ _ _ h => h) (Or.inl ⟨by rfl, ?_⟩) ?_ ?_
     rotate_left
     ·intro w'
      go_simp
      with_reducible rfl
     rotate_left
     ·simp only [Act.put, sA_, sB_, sC_, i64_w, i32_w]
      rfl
     refine done_ (by kernel_rfl) ?_
     have hc0 := Sep.c20 HS.out
     have hf0 := Sep.free HS.out 0
     go_wp2
     go_ret
     exact .inl ⟨n1, r, A4, c4_, HN64.out, (HV.out ▸ HEQ.out), rfl, HC4.out, HCD.out, Turned.of_sep (mk := fun _ => rtR g (.slice A4 r.length c4_) bad) (F' := fun _ => True) (HS.out.s20 _) HB0.out (below_set HB.out HS.out.ge)⟩
    ·have c8 := bytes_ne heq
     have HNO := Aside0.mk (HS1.out.2 (fun h => heq (hVU.2 h)))
     clear hlt hby hx hx256 hi10 hi9 hi9' hy hst1 hi1 hUl hV hU hVU hsV hsU hi05 hsz5 hr hA4 hc4 hx128 heq
     obtain ⟨hr1, hr2, hr3, hr3b, hr3c, hr4, hr5, hr6⟩ := HRR.out
     go_wp2
     clear hc0 hc1 hf0
     refine start_ (n := 12) (S := fun w' => w'.cell? ⟨g, 0, none⟩ = some (.slice (some ad) b.length c) ∧ (convert 24 9 (.slice (some ad) i1 c)).run Try.prog w' = .ok (.string sU) w') (ds := []) #[false, false, false, false, false, false, false, false, false, false, false, false] (by kernel_rfl) rfl rfl ⟨Sep.c20 (sep_drew HS.out), (by rw [HSU.out]; exact Kd.C_string Try.underlying24 Try.underlying5 Try.underlying9 (Kd.C_below HU.out (below_drew HW.out)))⟩ (fun hHeld => ?_)
     have n2_ := Aside0.mk (below_drew HW.out)
     clear HW
     have HW := n2_
     clear n2_
     have n0_ := Aside0.mk (below_drew HB.out)
     have n1_ := Aside0.mk (sep_drew HS.out)
     clear HB HS
     have HB := n0_
     have HS := n1_
     clear n0_ n1_
     generalize (World.drew wr) = wd_ at HB HS HW hHeld ⊢
     refine pure_ (i := 0) (N := some 42) (v := ?_) (a' := ?_) #[true, false, false, false, false, false, false, false, false, false, false, false] rfl rfl (by kernel_rfl) (fun _ _ _ h => h) (Or.inl ⟨by rfl, ?_⟩) ?_ ?_
     rotate_left
     ·intro w'
      go_simp
      with_reducible rfl
     rotate_left
     ·simp only [Act.put, sA_, sB_, sC_, i64_w, i32_w]
      rfl
     refine pure_ (i := 3) (N := some 45) (v := ?_) (a' := ?_) #[true, false, false, true, false, false, false, false, false, false, false, false] rfl rfl (by kernel_rfl) (fun _ _ _ h => h) (Or.inl ⟨by rfl, ?_⟩) ?_ ?_
     rotate_left
     ·intro w'
      go_simp
      with_reducible rfl
     rotate_left
     ·simp only [Act.put, sA_, sB_, sC_, i64_w, i32_w]
      rfl
     refine pure_ (i := 4) (N := some 46) (v := ?_) (a' := ?_) #[true, false, false, true, true, false, false, false, false, false, false, false] rfl rfl (by kernel_rfl) (fun _ _ _ h => h) (Or.inl ⟨by rfl, ?_⟩) ?_ ?_
     rotate_left
     ·intro w'
      go_simp
      with_reducible rfl
     rotate_left
     ·simp only [Act.put, sA_, sB_, sC_, i64_w, i32_w]
      rfl
     refine pure_ (i := 5) (N := some 47) (v := ?_) (a' := ?_) #[true, false, false, true, true, true, false, false, false, false, false, false] rfl rfl (by kernel_rfl) (fun _ _ _ h => h) (Or.inl ⟨by rfl, ?_⟩) ?_ ?_
     rotate_left
     ·intro w'
      go_simp
      with_reducible rfl
     rotate_left
     ·simp only [Act.put, sA_, sB_, sC_, i64_w, i32_w]
      rfl
     refine pure_ (i := 7) (N := some 49) (v := ?_) (a' := ?_) #[true, false, false, true, true, true, false, true, false, false, false, false] rfl rfl (by kernel_rfl) (fun _ _ _ h => h) (Or.inl ⟨by rfl, ?_⟩) ?_ ?_
     rotate_left
     ·intro w'
      go_simp
      with_reducible rfl
     rotate_left
     ·simp only [Act.put, sA_, sB_, sC_, i64_w, i32_w]
      rfl
     refine pure_ (i := 8) (N := some 50) (v := ?_) (a' := ?_) #[true, false, false, true, true, true, false, true, true, false, false, false] rfl rfl (by kernel_rfl) (fun _ _ _ h => h) (Or.inl ⟨by rfl, ?_⟩) ?_ ?_
     rotate_left
     ·intro w'
      go_simp
      with_reducible rfl
     rotate_left
     ·simp only [Act.put, sA_, sB_, sC_, i64_w, i32_w]
      rfl
     refine take_ (i := 6) (N := some 48) (v := ?_) (a' := ?_) #[true, false, false, true, true, true, true, true, true, false, false, false] rfl rfl (by kernel_rfl) (fun _ _ _ h => h) (Or.inl ⟨by rfl, ?_⟩) hHeld ?_ ?_
     rotate_left
     ·rintro w' ⟨s0, s1⟩
      go_simp
      with_reducible rfl
     rotate_left
     ·simp only [Act.put, sA_, sB_, sC_, i64_w, i32_w]
      rfl
     refine pure_ (i := 9) (N := some 51) (v := ?_) (a' := ?_) #[true, false, false, true, true, true, true, true, true, true, false, false] rfl rfl (by kernel_rfl) (fun _ _ _ h => h) (Or.inl ⟨by rfl, ?_⟩) ?_ ?_
     rotate_left
     ·intro w'
      go_simp
      with_reducible rfl
     rotate_left
     ·simp only [Act.put, sA_, sB_, sC_, i64_w, i32_w]
      rfl
     refine take_ (i := 10) (N := some 52) (v := ?_) (a' := ?_) #[true, false, false, true, true, true, true, true, true, true, true, false] rfl rfl (by kernel_rfl) (fun _ _ _ h => h) (Or.inl ⟨by rfl, ?_⟩) hHeld ?_ ?_
     rotate_left
     ·rintro w' ⟨s0, s1⟩
      go_simp
      with_reducible rfl
     rotate_left
     ·simp only [Act.put, sA_, sB_, sC_, i64_w, i32_w]
      rfl
     refine one_ (i := 1) (N := some 43) #[true, true, false, true, true, true, true, true, true, true, true, false] rfl rfl (by kernel_rfl) (by decide) (fun K hK => ?_)
     refine goes_ Try.func68 (by kernel_rfl) rfl #[.slice none 0 0, .int .u64 (n1 : Int)] (by rfl) rfl rfl (by first | (simp only [List.map_toArray, List.map_cons, List.map_nil]; done) | (simp only [List.map_toArray, List.map_cons, List.map_nil]; rfl) | rfl) ?_; with_reducible refine (ref1put_nil n1 _ HN64.out).mono ?_; rintro e w8 ⟨v, rfl, ho, hb⟩; refine ⟨_, rfl, ?_⟩
     rw [← HV.out] at ho
     have hcv := own_string (P := Try.prog) Try.underlying24 Try.underlying5 Try.underlying9 (Kd.own_of_R ho)
     rw [← HSV.out] at hcv
     clear ho
     have n2_ := Aside0.mk (below_step HW.out hb); have HW := n2_; clear n2_; have n0_ := Aside0.mk (below_step (by repeat (first | exact HB.out | apply below_alloc | apply pw_below_drewN | apply below_drew1)) hb); have n1_ := Aside0.mk (Sep.below (by repeat (first | exact HS.out | apply sep_alloc | apply sep_drewN | apply sep_drew)) hb); clear HB HS; have HB := n0_; have HS := n1_; clear n0_ n1_ hb
     refine hK.out _ _ ⟨Sep.c20 HS.out, (by rw [HSU.out]; exact Kd.C_string Try.underlying24 Try.underlying5 Try.underlying9 (Kd.C_below HU.out HW.out))⟩ (fun hHeld => ?_)
     clear hK K
     refine norm_ (a' := ?_) ?_ ?_
     rotate_left
     ·show Act.put _ (some 43) _ = _
      simp only [Act.put, sA_, sB_, sC_, i64_w, i32_w]
      rfl
     refine one_ (i := 2) (N := some 44) #[true, true, true, true, true, true, true, true, true, true, true, false] rfl rfl (by kernel_rfl) (by decide) (fun K hK => ?_)
     refine value_ (w1 := ?_) (v := ?_) (by rfl) rfl ?_ ?_
     rotate_left 2
     ·go_simp
      constructor
      ·rfl
      ·rfl
     clear hcv
     refine hK.out _ _ ⟨Sep.c20 HS.out, (by rw [HSU.out]; exact Kd.C_string Try.underlying24 Try.underlying5 Try.underlying9 (Kd.C_below HU.out HW.out))⟩ (fun hHeld => ?_)
     clear hK K
     refine norm_ (a' := ?_) ?_ ?_
     rotate_left
     ·show Act.put _ (some 44) _ = _
      simp only [Act.put, sA_, sB_, sC_, i64_w, i32_w]
      rfl
     refine pure_ (i := 11) (N := some 53) (v := ?_) (a' := ?_) #[true, true, true, true, true, true, true, true, true, true, true, true] rfl rfl (by kernel_rfl) (fun _ _ _ h => h) (Or.inl ⟨by rfl, ?_⟩) ?_ ?_
     rotate_left
     ·intro w'
      go_simp
      with_reducible rfl
     rotate_left
     ·simp only [Act.put, sA_, sB_, sC_, i64_w, i32_w]
      rfl
     refine done_ (by kernel_rfl) ?_
     go_wp2_with (first
      | (go_at_call 103; ((with_reducible refine (rfail_calls g _ bad w0 _ HB.out HS.out.own).mono ?_); rintro e w8 ⟨rfl, ht⟩; obtain ⟨F_, hs_⟩ := Turned.sep ht (HS.out) rfl; have n0_ := Aside0.mk (Turned.below ht); clear HB HS ht; have HB := n0_; have HS := Aside0.mk hs_; clear n0_ hs_)))
     go_ret
     exact .inr ⟨HNO.out, rfl, Turned.of_sep (mk := fun _ => rtR g (.slice none 0 0) true) (F' := fun _ => True) HS.out HB0.out HB.out⟩
   ·have c7 : decide ((x : Int) < 128) = false := decide_eq_false (by omega)
    have c7n : decide (x < 128) = false := decide_eq_false hx128
    have HS2 := Aside0.mk (HST.out.2 (by omega))
    obtain ⟨k1_, rfl⟩ : ∃ q, gk = q + 1 := ⟨gk - 1, by have := HI.out; omega⟩
    have HX := Aside0.mk hnx
    clear hlt hnx hby hx hx256 hi10 hi9 hi9' hx128 hy hi1
    obtain ⟨hr1, hr2, hr3, hr3b, hr3c, hr4, hr5, hr6⟩ := HRR.out
    go_wp2
    clear hr1 hr2 hr3 hr3b hr3c hr4 hr5 hr6
    go_roundg k1_
    case measure => omega
    case rel => exact ⟨i1, n1, k1, rfl, rfl, (by first | rfl | rw [HX.out]), ⟨by have := HI.out; have := HI1.out; omega, HN64.out, HK64.out, HS2.out⟩, HS, HB, HW⟩
  ·have HNO := Aside0.mk (show ∀ (m : Nat) (r : List Int), m < 2 ^ 64 → b ≠ varint m ++ r from fun m r hm => by
    rcases HI.out.2.2.2 with ⟨h1, _, h2⟩ | ⟨_, h⟩
    ·exact some_out h2 (by omega) m r
    ·exact h m r hm)
   have hcs : decide ((i : Int) < (b.length : Int)) = false ∧ decide (i < b.length) = false ∨ (decide ((i : Int) < (b.length : Int)) = true ∧ decide (i < b.length) = true) ∧ decide ((i : Int) < 10) = false ∧ decide (i < 10) = false := by
    by_cases h : i < b.length
    ·exact .inr ⟨⟨decide_eq_true (by omega), decide_eq_true h⟩, decide_eq_false (by omega), decide_eq_false (by omega)⟩
    ·exact .inl ⟨decide_eq_false (by omega), decide_eq_false h⟩
   clear hlt hi10
   rcases hcs with ⟨d1, d2⟩ | ⟨⟨d1, d2⟩, d3, d4⟩
   all_goals (
    go_wp2_with (first
     | (go_at_call 103; ((with_reducible refine (rfail_calls g _ bad w0 _ HB.out HS.out.own).mono ?_); rintro e w8 ⟨rfl, ht⟩; obtain ⟨F_, hs_⟩ := Turned.sep ht (HS.out) rfl; have n0_ := Aside0.mk (Turned.below ht); clear HB HS ht; have HB := n0_; have HS := Aside0.mk hs_; clear n0_ hs_)))
    go_ret
    exact .inr ⟨HNO.out, rfl, Turned.of_sep (mk := fun _ => rtR g (.slice none 0 0) true) (F' := fun _ => True) HS.out HB0.out HB.out⟩)
end Go.Proofs.Ythkpnnbjcendcaa.Sc
end
