/- What the law leans on, part 8: Ot, Onu, Stk, Pop, Stm, Rtk. -/
import Derived.Test.YthkpnnbjcendcaaQd7
import Derived.Laws.BitsAllLaws
set_option linter.unusedVariables false
set_option linter.unusedSimpArgs false
namespace SzQd8
theorem sA_ {α : Type} {l : List α} {i : Nat} {a : α} : l.toArray.setIfInBounds i a = (l.set i a).toArray := List.setIfInBounds_toArray ..
theorem sB_ {α : Type} {x : α} {l : List α} {a : α} : (x :: l).set 0 a = a :: l := rfl
theorem sC_ {α : Type} {x : α} {l : List α} {n : Nat} {a : α} : (x :: l).set (n + 1) a = x :: l.set n a := rfl
end SzQd8
open SzQd8
section
open Go.RowKit Go.Proofs.Ythkpnnbjcendcaa.X Go.Proofs.Ythkpnnbjcendcaa.Pl Go.Proofs.Ythkpnnbjcendcaa.Sp Go.Proofs.Ythkpnnbjcendcaa.Pure Go.Proofs.YthkpnnbjcendcaaW.PrintWords Go.Proofs.YthkpnnbjcendcaaW.PrintLast Go.Proofs.YthkpnnbjcendcaaW.PrintMore
namespace Go.Proofs.Ythkpnnbjcendcaa.Sp
theorem Sep.join {base : Nat} {w w' : World} {rs qs : List Res} (h : Sep base w rs) (hb : Below w.heap.size w w') (hB : base ≤ w.heap.size) (hq : Sep w.heap.size w' qs) : Sep base w' (qs ++ rs) := by
 induction qs with
 | nil => exact h.below hb
 | cons q qs ih =>
  refine ⟨hq.1.lower hB, ?_, ih hq.2.2⟩
  intro x hx k hk hk'
  rcases List.mem_append.1 hx with hx | hx
  ·exact hq.2.1 x hx k hk hk'
  ·have := h.hi x hx k hk'
   have := hq.1.lo k hk
   omega
end Go.Proofs.Ythkpnnbjcendcaa.Sp
namespace Go.Proofs.Ythkpnnbjcendcaa.Sc
abbrev otR (g : Nat) (v : Value) (bad : Bool) : Res := box g #[v, .bool bad] 125
theorem len64_calls (n : Nat) (w : World) (hn : n < 2 ^ 64) : Calls Try.prog 99 #[.int .u64 (n : Int)] w fun e w' => ∃ L : Nat, e = .returned (.int .i64 (L : Int)) ∧ Long n L ∧ L ≤ 64 ∧ Below w.heap.size w w' := by
 obtain ⟨L, h1, h2, h3⟩ := len_ev 0 n hn
 refine (bits_Len64.calls 1 _ _ w h1).mono ?_
 rintro e w' ⟨rfl, hd⟩
 exact ⟨L, rfl, h2, h3, hd.below⟩
set_option maxRecDepth 100000 in
theorem ofail_calls (g : Nat) (v : Value) (bad : Bool) (w0 w : World) (hB : Below w0.heap.size w0 w) (hO : Own w0.heap.size w (otR g v bad)) :
  Calls Try.prog 100 #[.pointer (some ⟨g, 0, none⟩)] w fun e w' => e = .returned (.tuple #[]) ∧ Turned w0 w w' (fun k => k = g) (fun _ => otR g (.slice none 0 0) true) := by
 have HB := Aside0.mk hB
 have HS := Aside0.mk (Sep.start hO)
 have hc0 := Sep.c20 HS.out
 have hc1 := Sep.c21 HS.out
 have hf0 := Sep.free HS.out 0
 have hf1 := Sep.free HS.out 1
 clear hB hO
 go_enter Try.func100, Try.ntmps100
 go_wp2
 first | go_end0 | ((try simp only [Exit.inBlock, Exit.then]); refine bodyPost_ret (results_none rfl _ _ _) rfl ?_)
 exact ⟨rfl, Turned.of_sep (mk := fun _ => otR g (.slice none 0 0) true) (F' := fun _ => True) ((HS.out.s20 _).s21 _) HB.out (below_set (below_set HB.out HS.out.ge) HS.out.ge)⟩
set_option maxRecDepth 100000 in
theorem left_calls (base g : Nat) (A : Option Addr) (n c : Nat) (bad : Bool) (w : World) (hO : Own base w (otR g (.slice A n c) bad)) :
  Calls Try.prog 75 #[.pointer (some ⟨g, 0, none⟩)] w fun e w' => e = .returned (.int .i64 (n : Int)) ∧ Below w.heap.size w w' := by
 have HB := Aside0.mk (Below.refl w.heap.size w)
 have hc0 := Sep.c20 (⟨hO, (fun q hq => by cases hq), trivial⟩ : Sep base w [otR g (.slice A n c) bad])
 clear hO
 go_enter Try.func75, Try.ntmps75
 go_wp2
 go_ret
 exact ⟨rfl, HB.out⟩
set_option maxRecDepth 100000 in
theorem end_calls (base g : Nat) (A : Option Addr) (n c : Nat) (bad : Bool) (w : World) (hO : Own base w (otR g (.slice A n c) bad)) :
  Calls Try.prog 76 #[.pointer (some ⟨g, 0, none⟩)] w fun e w' => e = .returned (.int .i64 (if bad = true ∨ 0 < n then 6 else 0)) ∧ Below w.heap.size w w' := by
 have HB := Aside0.mk (Below.refl w.heap.size w)
 have hc0 := Sep.c20 (⟨hO, (fun q hq => by cases hq), trivial⟩ : Sep base w [otR g (.slice A n c) bad])
 have hc1 := Sep.c21 (⟨hO, (fun q hq => by cases hq), trivial⟩ : Sep base w [otR g (.slice A n c) bad])
 clear hO
 cases bad
 ·by_cases h : 0 < n
  ·have h1 := eq_true h
   have h2 := decide_eq_true (show (0 : Int) < (n : Int) by omega)
   have h3 := decide_eq_true h
   have HE := Aside0.mk (show (if false = true ∨ 0 < n then (6 : Int) else 0) = 6 from if_pos (.inr h))
   clear h
   rw [HE.out]
   go_enter Try.func76, Try.ntmps76
   go_wp2
   go_ret
   exact ⟨rfl, HB.out⟩
  ·have h1 := eq_false h
   have h2 := decide_eq_false (show ¬ (0 : Int) < (n : Int) by omega)
   have h3 := decide_eq_false h
   have HE := Aside0.mk (show (if false = true ∨ 0 < n then (6 : Int) else 0) = 0 from if_neg (by simp [h]))
   clear h
   rw [HE.out]
   go_enter Try.func76, Try.ntmps76
   go_wp2
   go_ret
   exact ⟨rfl, HB.out⟩
 ·have HE := Aside0.mk (show (if true = true ∨ 0 < n then (6 : Int) else 0) = 6 from if_pos (.inl rfl))
  rw [HE.out]
  go_enter Try.func76, Try.ntmps76
  go_wp2
  go_ret
  exact ⟨rfl, HB.out⟩
set_option maxHeartbeats 8000000 in
set_option maxRecDepth 100000 in
theorem onew_calls (A0 : Option Addr) (c0 : Nat) (b : List Int) (w : World) (hr0 : Kd.C (Kd.int .u8) w A0 b.length b) (hc0 : b.length ≤ c0) (hl : b.length < 1000000) :
  Calls Try.prog 73 #[.slice A0 b.length c0] w fun e w' => ∃ g F A c, e = .returned (.pointer (some ⟨g, 0, none⟩)) ∧ Sep w.heap.size w' [otR g (.slice A b.length c) false, row F (Kd.int .u8) 5 w.heap.size (.slice A b.length c) b] ∧ Below w.heap.size w w' := by
 have HB := Aside0.mk (Below.refl w.heap.size w)
 have HS := Aside0.mk (Sep.nil w.heap.size w)
 have HR := Aside0.mk hr0
 have HL := Aside0.mk hl
 clear hr0 hl hc0
 go_enter Try.func73, Try.ntmps73
 go_wp2_with (first
  | ((with_reducible refine gate_dst (N := 3) rfl ?_); (try (refine gate_guard (by rfl) ?_; dsimp only)); (refine wp_lit (Kd.int .u8) (w0 := w) ?hg_ (N := 3) ?hd_ 5 (([] : List Int)) [] ?hr_ ?hp_ (by repeat (first | exact HS.out | apply sep_alloc | apply sep_drewN | apply sep_drew)) (by repeat (first | exact HB.out | apply below_alloc | apply pw_below_drewN | apply below_drew1)) (by simp) ?_; (case hd_ => rfl); (case hg_ => rfl); (case hr_ => first | (go_simp; done) | (go_simp; rfl)); (case hp_ => exact (Reps.none _ _))); intro v_ w_ F_ hs_ hb_; clear HB HS; have HB := Aside0.mk hb_; have HS := Aside0.mk hs_; clear hs_ hb_; obtain ⟨A_, c_, e_⟩ := Kd.R_slice (Sep.R HS.out); subst e_; (skip))
  | ((with_reducible refine gate_builtin (b := .append) (xs := #[.tmp 3, .tmp 4]) rfl ?_); (refine wp_append_row (Kd.int .u8) (w0 := w) rfl (.tmp 3) (.tmp 4) 24 5 (.int .u8 0) 1 rfl Try.underlying24 info5 rfl (by decide) (by omega) b _ _ _ HS.out (Kd.C_below HR.out HB.out) (fun _ _ h => h) (by repeat (first | exact HB.out | apply below_alloc | apply pw_below_drewN | apply below_drew1)) (by have := HL.out; simp; omega) rfl rfl ?_); (intro v_ w_ F_ hs_ hb_); (obtain ⟨O0, hy_⟩ : ∃ y_, y_ = ([] : List Int) ++ b := ⟨_, rfl⟩; rw [← hy_] at hs_; have HO0 := Aside0.mk hy_; clear hy_ HB HS; have HB := Aside0.mk hb_; have HS := Aside0.mk hs_; clear hs_ hb_; obtain ⟨A_, c_, e_⟩ := Kd.R_slice (Sep.R HS.out); subst e_); (have ho0 : O0 = b := (by rw [HO0.out]; rfl); clear HO0; subst ho0))
  | ((with_reducible refine gate_dst (N := 7) rfl ?_); (try (refine gate_guard (by rfl) ?_; dsimp only)); refine box_event ?hg (N := 7) ?hd (cs := #[.slice A_ O0.length c_, .bool false]) (t := 125) ?hr ?_; (case hd => rfl); (case hg => rfl); (case hr => first | (go_simp; done) | (go_simp; rfl)); intro g hg w5 hbox hb; have n0_ := Aside0.mk (below_step (by repeat (first | exact HB.out | apply below_alloc | apply pw_below_drewN | apply below_drew1)) hb); have n1_ := Aside0.mk (Sep.newbox (by repeat (first | exact HS.out | apply sep_alloc | apply sep_drewN | apply sep_drew)) hb (Nat.le_of_eq hg.symm) (below_size (by repeat (first | exact HB.out | apply below_alloc | apply pw_below_drewN | apply below_drew1))) hbox); clear HB HS; have HB := n0_; have HS := n1_; clear n0_ n1_ hb hbox hg))
 go_ret
 exact ⟨_, _, _, _, rfl, HS.out, HB.out⟩
end Go.Proofs.Ythkpnnbjcendcaa.Sc
namespace Go.Proofs.Ythkpnnbjcendcaa.Sc
def NumR (mk : Value → Bool → Res) (g : Nat) (A : Option Addr) (b : List Int) (bad : Bool) (w0 w : World) (e : Ending) (w' : World) : Prop :=
 (∃ (m : Nat) (r : List Int) (A' : Option Addr) (c' : Nat), m < 2 ^ 64 ∧ b = varint m ++ r ∧ e = .returned (.int .u64 (m : Int)) ∧ r.length ≤ c' ∧ (∀ w2, Kd.C (Kd.int .u8) w2 A b.length b → Kd.C (Kd.int .u8) w2 A' r.length r) ∧ Turned w0 w w' (fun k => k = g) (fun _ => mk (.slice A' r.length c') bad)) ∨
 ((∀ (m : Nat) (r : List Int), m < 2 ^ 64 → b ≠ varint m ++ r) ∧ e = .returned (.int .u64 0) ∧ Turned w0 w w' (fun k => k = g) (fun _ => mk (.slice none 0 0) true))
theorem pow7 (i : Nat) : (128 : Nat) ^ i = 2 ^ (7 * i) := by rw [Nat.pow_mul]
set_option maxHeartbeats 8000000 in
set_option maxRecDepth 100000 in
theorem num_calls (g : Nat) (A : Option Addr) (c : Nat) (b : List Int) (bad : Bool) (w0 w : World) (hB : Below w0.heap.size w0 w) (hO : Own w0.heap.size w (otR g (.slice A b.length c) bad)) (hr : Kd.C (Kd.int .u8) w A b.length b) (hc : b.length ≤ c) (hby : Byt b) (hl : b.length < 1000000) :
  Calls Try.prog 74 #[.pointer (some ⟨g, 0, none⟩)] w fun e w' => NumR (otR g) g A b bad w0 w e w' := by
 have HB0 := Aside0.mk hB
 have HB := Aside0.mk hB
 have HS := Aside0.mk (Sep.start hO)
 have HR := Aside0.mk hr
 have HC := Aside0.mk hc
 have HBY := Aside0.mk hby
 have HL := Aside0.mk hl
 have hc0 := Sep.c20 HS.out
 clear hB hO hr hc hby hl
 go_enter Try.func74, Try.ntmps74
 go_wp2
 have HW := Aside0.mk (Below.refl w.heap.size w)
 go_loopg [3, 4, 5, 13] 9 (fun kq v3 v4 v5 v13 w' => ∃ (i acc : Nat), v3 = .int .u64 (acc : Int) ∧ v13 = .int .i64 (i : Int) ∧ Aside0 (kq + i = 9 ∧ Some7 b i acc) ∧ Aside0 (Sep w0.heap.size w' [otR g (.slice A b.length c) bad, frameR w0.heap.size w (otR g (.slice A b.length c) bad).foot]) ∧ Aside0 (Below w0.heap.size w0 w') ∧ Aside0 (Below w.heap.size w w'))
 case atStart => exact ⟨0, 0, rfl, rfl, ⟨by omega, some_start b⟩, HS, HB, HW⟩
 case round =>
  clear HS HB HW hc0
  obtain ⟨i, acc, rfl, rfl, HI, HS, HB, HW⟩ := hrel
  have hc0 := Sep.c20 HS.out
  have hc1 := Sep.c21 HS.out
  have hf0 := Sep.free HS.out 0
  have hi9 : i ≤ 9 := by have := HI.out; omega
  by_cases hlt : i < b.length
  ·have c1b : decide ((i : Int) < (b.length : Int)) = true := decide_eq_true (by omega)
   have c1n : decide (i < b.length) = true := decide_eq_true hlt
   have hnx : wrap64 ((i : Int) + 1) = ((i + 1 : Nat) : Int) := by rw [w64 (by omega) (by omega)]; simp
   have hby := HBY.out (b.getD i 0) (by rw [getD_lt _ _ _ hlt]; exact List.getElem_mem _)
   obtain ⟨x, hx⟩ : ∃ x : Nat, b.getD i 0 = (x : Int) := ⟨(b.getD i 0).toNat, by omega⟩
   have hx256 : x < 256 := by omega
   obtain ⟨ad, e1, hx0⟩ := Kd.at_int HR.out (i : Int) (by omega) (by omega)
   cases e1
   rw [Int.toNat_natCast, rd_get, hx] at hx0
   replace hx0 := (HW.out.cell (World.block_lt_of_cell? w _ hx0)).trans hx0
   have c4 := eq_true hlt
   have c5 := eq_true (show (i : Int) < (b.length : Int) by omega)
   have c6 := eq_true (show 0 ≤ (i : Int) by omega)
   have h10 : ((i : Int) == 10) = false := by rw [beq_eq_false_iff_ne]; omega
   have h10b : decide ((i : Int) = 10) = false := decide_eq_false (by omega)
   by_cases ht : i = 9 ∧ 1 < x
   ·obtain ⟨hi9e, hx1⟩ := ht
    have h9a : ((i : Int) == 9) = true := by rw [hi9e]; rfl
    have h9 : decide ((1 : Int) < (x : Int)) = true := decide_eq_true (by omega)
    have h9b : decide (1 < x) = true := decide_eq_true hx1
    have HNO := Aside0.mk (fun (m : Nat) (r : List Int) (hm : m < 2 ^ 64) => some_ten (acc := acc) (c := x) (by have := HI.out.2; rwa [hi9e] at this) (by omega) (by rw [← hi9e]; exact hx) hx1 hx256 m r hm)
    clear hlt hnx hby hx hx256 hi9 hx1 hi9e
    go_wp2_with (first
     | ((with_reducible refine gate_dst (N := 61) rfl ?_); (try (refine gate_guard (by rfl) ?_; dsimp only)); refine goesL_ (some 61) rfl rfl Try.func100 (by kernel_rfl) rfl #[.pointer (some ⟨g, 0, none⟩)] rfl (by (try simp only [List.map_toArray, List.map_cons, List.map_nil]); first | done | rfl) ?_; (with_reducible refine (ofail_calls g _ bad w0 _ HB.out HS.out.own).mono ?_); rintro e w8 ⟨rfl, ht⟩; refine ⟨_, rfl, ?_⟩; obtain ⟨F_, hs_⟩ := Turned.sep ht (HS.out) rfl; have n0_ := Aside0.mk (Turned.below ht); clear HB HS ht; have HB := n0_; have HS := Aside0.mk hs_; clear n0_ hs_))
    go_ret
    exact .inr ⟨HNO.out, rfl, Turned.of_sep (mk := fun _ => otR g (.slice none 0 0) true) (F' := fun _ => True) HS.out HB0.out HB.out⟩
   ·have h9 : ((i : Int) == 9) = true → decide ((1 : Int) < (x : Int)) = false := fun h => decide_eq_false (by have := beq_iff_eq.1 h; omega)
    have hlow := low7 hx256
    have hand := high1 hx256
    obtain ⟨s, hs⟩ : ∃ s, s = 7 * i := ⟨_, rfl⟩
    have hsw : wrap64 (7 * (i : Int)) = (s : Int) := by rw [w64 (by omega) (by omega)]; omega
    obtain ⟨y, hy⟩ : ∃ y, y = x % 128 := ⟨_, rfl⟩
    rw [← hy] at hlow
    have hyw : IntKind.u64.wrap (y : Int) = (y : Int) := w_u64 (by omega) (by omega)
    have hai : acc < 2 ^ (7 * i) := by have := HI.out.2.1; rwa [pow7] at this
    have hbd : i < 9 ∨ i = 9 ∧ x ≤ 1 := by omega
    have hfit : acc + y * 2 ^ (7 * i) < 2 ^ 64 := by
     rcases hbd with h | ⟨rfl, h⟩
     ·have h1 : y * 2 ^ (7 * i) ≤ 127 * 2 ^ (7 * i) := Nat.mul_le_mul_right _ (by omega)
      have h2 : (2 : Nat) ^ (7 * i) ≤ 2 ^ 56 := Nat.pow_le_pow_right (by decide) (by omega)
      omega
     ·have h1 : y * 2 ^ (7 * 9) ≤ 1 * 2 ^ (7 * 9) := Nat.mul_le_mul_right _ (by omega)
      omega
    have hor := or_add (c := y) hai (by omega) hi9
    obtain ⟨acc', hacc⟩ : ∃ a, a = acc + y * 2 ^ (7 * i) := ⟨_, rfl⟩
    rw [← hacc] at hor hfit
    rw [← hs] at hor
    have hor2 : Go.bits .or .u64 (acc : Int) (IntKind.u64.wrap ((y : Int) * 2 ^ min s 64)) = (acc' : Int) := by
     unfold shl at hor
     rw [Int.toNat_natCast] at hor
     exact hor
    by_cases hx128 : x < 128
    ·rw [if_pos hx128] at hand
     obtain ⟨i1, hi1⟩ : ∃ j, j = i + 1 := ⟨_, rfl⟩
     rw [← hi1] at hnx
     have HCN := Aside0.mk (show ∀ L, Long acc' L → (i1 = max 1 ((L + 6) / 7) ↔ i = 0 ∨ 0 < x) from fun L hL => by
      have hb2 : acc' < 2 ^ (7 * (i + 1)) := by
       have h1 : y * 2 ^ (7 * i) ≤ 127 * 2 ^ (7 * i) := Nat.mul_le_mul_right _ (by omega)
       rw [Nat.mul_add, Nat.pow_add, hacc]
       omega
      rw [hi1, long_groups hL hb2, hacc]
      have hyx : y = x := by omega
      constructor
      ·rintro (h | h)
       ·exact .inl h
       ·refine .inr (Nat.pos_of_ne_zero ?_)
        intro h0
        rw [hyx, h0, Nat.zero_mul] at h
        omega
      ·rintro (h | h)
       ·exact .inl h
       ·refine .inr ?_
        have : 1 * 2 ^ (7 * i) ≤ y * 2 ^ (7 * i) := Nat.mul_le_mul_right _ (by omega)
        omega)
     have HFT := Aside0.mk hfit
     have h9c : (((i : Int) == 9) = true ∧ decide ((1 : Int) < (x : Int)) = false) ∨ ((i : Int) == 9) = false := by
      rcases hbd with h | ⟨h, h1⟩
      ·exact .inr (by rw [beq_eq_false_iff_ne]; omega)
      ·exact .inl ⟨by rw [h]; rfl, decide_eq_false (by omega)⟩
     by_cases hcan : i = 0 ∨ 0 < x
     ·have HNE := Aside0.mk (show ∀ L : Nat, Long acc' L → ((i1 : Int) != if (1 : Int) < ((L : Int) + 7 - 1) / 7 then ((L : Int) + 7 - 1) / 7 else 1) = false from fun L hL => by
       have := (HCN.out L hL).2 hcan
       rw [bne_eq_false_iff_eq]
       split <;> omega)
      have HFC := Aside0.mk (hcan)
      have HXM := Aside0.mk hx
      have HLT := Aside0.mk hlt
      have HI1 := Aside0.mk hi1
      have HX128 := Aside0.mk hx128
      have HYX := Aside0.mk (show y = x by omega)
      have HEQ := Aside0.mk ((some_end HI.out.2 hlt hx hx128 acc' (b.drop i1)).2 ⟨by rw [hacc, ← pow7, show y = x by omega], hcan, by rw [hi1]⟩)
      obtain ⟨r, hr⟩ : ∃ r, r = b.drop i1 := ⟨_, rfl⟩
      have HRL := Aside0.mk (show b.length - i1 = r.length by rw [hr, List.length_drop])
      obtain ⟨i05, hi05, _, hsz5, _⟩ := info_parts info5
      have hcut := cut_from (P := Try.prog) 24 5 .i64 Try.underlying24 hi05 1 hsz5 (some ad) b.length c (i1 : Int) (by omega) (by omega)
      obtain ⟨A4, hA4⟩ : ∃ A, A = (if c = i1 then (some ad : Option Addr) else (some ad).map (fun x => x.add (i1 * 1))) := ⟨_, rfl⟩
      have HCD := Aside0.mk (show ∀ w2, Kd.C (Kd.int .u8) w2 (some ad) b.length b → Kd.C (Kd.int .u8) w2 A4 r.length r from fun w2 h2 => by rw [hA4, hr]; exact Kd.C_drop (m := i1) h2 (by omega) HC.out)
      obtain ⟨c4, hc4⟩ : ∃ x, x = c - i1 := ⟨_, rfl⟩
      have HC4 := Aside0.mk (show r.length ≤ c4 by have := HC.out; rw [hc4, ← HRL.out]; omega)
      rw [Int.toNat_natCast, ← hA4, HRL.out, ← hc4] at hcut
      have k1 := eq_true (show i1 ≤ b.length by omega)
      have k1i := eq_true (show (i1 : Int) ≤ (b.length : Int) by omega)
      have k2i := eq_true (show 0 ≤ (i1 : Int) by omega)
      rw [← hr] at HEQ
      clear hlt hby hx hx256 hi9 ht hfit hai hbd hx128 hacc hs hy hi1 hcan h9 hi05 hsz5 hA4 hc4 hr
      rcases h9c with ⟨h9a, h9b⟩ | h9a
      all_goals (
       go_wp2_with (first
        | ((with_reducible refine gate_dst (N := 42) rfl ?_); (try (refine gate_guard (by rfl) ?_; dsimp only)); refine goesL_ (some 42) rfl rfl Try.func99 (by kernel_rfl) rfl #[.int .u64 (acc' : Int)] rfl (by (try simp only [List.map_toArray, List.map_cons, List.map_nil]); first | done | rfl) ?_; (with_reducible refine (len64_calls acc' _ HFT.out).mono ?_); rintro e w8 ⟨L, rfl, hL1, hL2, hb⟩; refine ⟨_, rfl, ?_⟩; have n0_ := Aside0.mk (below_step (by repeat (first | exact HB.out | apply below_alloc | apply pw_below_drewN | apply below_drew1)) hb); have n1_ := Aside0.mk (Sep.below (by repeat (first | exact HS.out | apply sep_alloc | apply sep_drewN | apply sep_drew)) hb); clear HB HS; have HB := n0_; have HS := n1_; clear n0_ n1_ hb; have hne := HNE.out L hL1; clear hL1 hc0 hc1 hf0; have hc0 := Sep.c20 HS.out; have hc1 := Sep.c21 HS.out; have hf0 := Sep.free HS.out 0))
       all_goals go_ret
       all_goals exact .inl ⟨acc', r, A4, c4, HFT.out, HEQ.out, rfl, HC4.out, HCD.out, Turned.of_sep (mk := fun _ => otR g (.slice A4 r.length c4) bad) (F' := fun _ => True) (HS.out.s20 _) HB0.out (below_set HB.out HS.out.ge)⟩)
     ·have HNE := Aside0.mk (show ∀ L : Nat, Long acc' L → ((i1 : Int) != if (1 : Int) < ((L : Int) + 7 - 1) / 7 then ((L : Int) + 7 - 1) / 7 else 1) = true from fun L hL => by
       have := mt (HCN.out L hL).1 hcan
       rw [bne_iff_ne]
       split <;> omega)
      have HNO := Aside0.mk (fun (m : Nat) (r : List Int) (hm : m < 2 ^ 64) (e : b = varint m ++ r) => hcan ((some_end HI.out.2 hlt hx hx128 m r).1 e).2.1)
      clear hlt hby hx hx256 hi9 ht hfit hai hbd hx128 hacc hs hy hi1 hcan h9
      rcases h9c with ⟨h9a, h9b⟩ | h9a
      all_goals (
       go_wp2_with (first
        | ((with_reducible refine gate_dst (N := 42) rfl ?_); (try (refine gate_guard (by rfl) ?_; dsimp only)); refine goesL_ (some 42) rfl rfl Try.func99 (by kernel_rfl) rfl #[.int .u64 (acc' : Int)] rfl (by (try simp only [List.map_toArray, List.map_cons, List.map_nil]); first | done | rfl) ?_; (with_reducible refine (len64_calls acc' _ HFT.out).mono ?_); rintro e w8 ⟨L, rfl, hL1, hL2, hb⟩; refine ⟨_, rfl, ?_⟩; have n0_ := Aside0.mk (below_step (by repeat (first | exact HB.out | apply below_alloc | apply pw_below_drewN | apply below_drew1)) hb); have n1_ := Aside0.mk (Sep.below (by repeat (first | exact HS.out | apply sep_alloc | apply sep_drewN | apply sep_drew)) hb); clear HB HS; have HB := n0_; have HS := n1_; clear n0_ n1_ hb; have hne := HNE.out L hL1; clear hL1 hc0 hc1 hf0; have hc0 := Sep.c20 HS.out; have hc1 := Sep.c21 HS.out; have hf0 := Sep.free HS.out 0)
        | ((with_reducible refine gate_dst (N := 61) rfl ?_); (try (refine gate_guard (by rfl) ?_; dsimp only)); refine goesL_ (some 61) rfl rfl Try.func100 (by kernel_rfl) rfl #[.pointer (some ⟨g, 0, none⟩)] rfl (by (try simp only [List.map_toArray, List.map_cons, List.map_nil]); first | done | rfl) ?_; (with_reducible refine (ofail_calls g _ bad w0 _ HB.out HS.out.own).mono ?_); rintro e w9 ⟨rfl, ht⟩; refine ⟨_, rfl, ?_⟩; obtain ⟨F_, hs_⟩ := Turned.sep ht (HS.out) rfl; have n0_ := Aside0.mk (Turned.below ht); clear HB HS ht; have HB := n0_; have HS := Aside0.mk hs_; clear n0_ hs_))
       all_goals go_ret
       all_goals exact .inr ⟨HNO.out, rfl, Turned.of_sep (mk := fun _ => otR g (.slice none 0 0) true) (F' := fun _ => True) HS.out HB0.out HB.out⟩)
    ·rw [if_neg hx128] at hand
     have hi8 : i < 9 := by omega
     have h9b : ((i : Int) == 9) = false := by rw [beq_eq_false_iff_ne]; omega
     obtain ⟨k1, rfl⟩ : ∃ q, gk = q + 1 := ⟨gk - 1, by have := HI.out; omega⟩
     have HX := Aside0.mk hnx
     have HN := Aside0.mk (show Some7 b (i + 1) acc' by
      rw [hacc, hy, ← pow7]
      exact some_more HI.out.2 hlt hx (by omega) hx256)
     clear hlt hnx hby hx hx256 hi9 ht hfit hai hbd hx128 hacc hs hy h9 hi8
     go_wp2
     go_roundg k1
     case measure => omega
     case rel => exact ⟨i + 1, acc', rfl, (by first | rfl | rw [HX.out]), ⟨by have := HI.out; omega, HN.out⟩, HS, HB, HW⟩
  ·have c1b : decide ((i : Int) < (b.length : Int)) = false := decide_eq_false (by omega)
   have c1n : decide (i < b.length) = false := decide_eq_false hlt
   have HNO := Aside0.mk (fun (m : Nat) (r : List Int) (hm : m < 2 ^ 64) => some_out HI.out.2 (by omega) m r)
   clear hlt hi9
   go_wp2_with (first
    | ((with_reducible refine gate_dst (N := 61) rfl ?_); (try (refine gate_guard (by rfl) ?_; dsimp only)); refine goesL_ (some 61) rfl rfl Try.func100 (by kernel_rfl) rfl #[.pointer (some ⟨g, 0, none⟩)] rfl (by (try simp only [List.map_toArray, List.map_cons, List.map_nil]); first | done | rfl) ?_; (with_reducible refine (ofail_calls g _ bad w0 _ HB.out HS.out.own).mono ?_); rintro e w8 ⟨rfl, ht⟩; refine ⟨_, rfl, ?_⟩; obtain ⟨F_, hs_⟩ := Turned.sep ht (HS.out) rfl; have n0_ := Aside0.mk (Turned.below ht); clear HB HS ht; have HB := n0_; have HS := Aside0.mk hs_; clear n0_ hs_))
   go_ret
   exact .inr ⟨HNO.out, rfl, Turned.of_sep (mk := fun _ => otR g (.slice none 0 0) true) (F' := fun _ => True) HS.out HB0.out HB.out⟩
end Go.Proofs.Ythkpnnbjcendcaa.Sc
namespace Go.Proofs.Ythkpnnbjcendcaa.Sc
abbrev tkR (g : Nat) (v : Value) (p : Nat) (bad : Bool) : Res := box g #[v, .int .i64 (p : Int), .bool bad] 101
theorem atR_ok {b : List Int} {p wd : Nat} (hw : wd ≤ 64) (h : p + wd ≤ 8 * b.length) : atR b (p : Int) (wd : Int) = ((val b p wd : Int), 0) := by
 unfold atR
 rw [if_neg (by omega), if_neg (by omega), Int.toNat_natCast, Int.toNat_natCast]
theorem atR_bad {b : List Int} {p wd : Nat} (hw : wd ≤ 64) (h : 8 * b.length < p + wd) : atR b (p : Int) (wd : Int) = (0, 2) := by
 unfold atR
 rw [if_neg (by omega), if_pos (by omega)]
set_option maxHeartbeats 8000000 in
set_option maxRecDepth 100000 in
theorem tktake_calls (g : Nat) (A : Option Addr) (c : Nat) (b : List Int) (p wd : Nat) (bad : Bool) (r1 r2 : Int) (bad' : Bool) (w0 w : World) (hB : Below w0.heap.size w0 w) (hO : Own w0.heap.size w (tkR g (.slice A b.length c) p bad)) (hr : Kd.C (Kd.int .u8) w0 A b.length b) (hc : b.length ≤ c) (hby : Byt b) (hl : b.length < 1000000)
  (hw : wd ≤ 64) (hp : p < 1000000000) (ha : atR b (p : Int) (wd : Int) = (r1, r2)) (hb' : bad' = (bad || (r2 != 0))) :
  Calls Try.prog 101 #[.pointer (some ⟨g, 0, none⟩), .int .i64 (wd : Int)] w fun e w' => e = .returned (.int .u64 r1) ∧ Turned w0 w w' (fun k => k = g) (fun _ => tkR g (.slice A b.length c) (p + wd) bad') := by
 have HB0 := Aside0.mk hB
 have HB := Aside0.mk hB
 have HS := Aside0.mk (Sep.start hO)
 have HR := Aside0.mk hr
 have HC := Aside0.mk hc
 have HBY := Aside0.mk hby
 have HL := Aside0.mk hl
 have HA := Aside0.mk ha
 have HW := Aside0.mk hw
 obtain ⟨q, hq⟩ : ∃ q, q = p + wd := ⟨_, rfl⟩
 have hqw : wrap64 ((p : Int) + (wd : Int)) = (q : Int) := by rw [w64 (by omega) (by omega)]; omega
 rw [← hq]
 have hc1 := Sep.c31 HS.out
 have hc2 := Sep.c32 HS.out
 have hf1 := Sep.free HS.out 1
 have hf2 := Sep.free HS.out 2
 clear hB hO hr hc hby hl hw hp ha hq
 go_enter Try.func101, Try.ntmps101
 go_wp2
 clear hc1 hc2 hf1 hf2
 refine start_ (n := 15) (S := fun w' => w'.cell? ⟨g, 0, none⟩ = some (.slice A b.length c) ∧ w'.cell? ⟨g, 1, none⟩ = some (.int .i64 (p : Int))) (ds := []) #[false, false, false, false, false, false, false, false, false, false, false, false, false, false, false] (by kernel_rfl) rfl rfl ⟨Sep.c30 (sep_drew HS.out), Sep.c31 (sep_drew HS.out)⟩ (fun hHeld => ?_)
 have n0_ := Aside0.mk (below_drew HB.out)
 have n1_ := Aside0.mk (sep_drew HS.out)
 clear HB HS
 have HB := n0_
 have HS := n1_
 clear n0_ n1_
 generalize (World.drew w) = wd_ at HB HS hHeld ⊢
 refine pure_ (i := 0) (N := some 8) (v := ?_) (a' := ?_) #[true, false, false, false, false, false, false, false, false, false, false, false, false, false, false] rfl rfl (by kernel_rfl) (fun _ _ _ h => h) (Or.inl ⟨by rfl, ?_⟩) ?_ ?_
 rotate_left
 ·intro w'
  go_simp
  with_reducible rfl
 rotate_left
 ·simp only [Act.put, sA_, sB_, sC_, i64_w, i32_w]
  rfl
 refine pure_ (i := 1) (N := some 9) (v := ?_) (a' := ?_) #[true, true, false, false, false, false, false, false, false, false, false, false, false, false, false] rfl rfl (by kernel_rfl) (fun _ _ _ h => h) (Or.inl ⟨by rfl, ?_⟩) ?_ ?_
 rotate_left
 ·intro w'
  go_simp
  with_reducible rfl
 rotate_left
 ·simp only [Act.put, sA_, sB_, sC_, i64_w, i32_w]
  rfl
 refine pure_ (i := 2) (N := some 10) (v := ?_) (a' := ?_) #[true, true, true, false, false, false, false, false, false, false, false, false, false, false, false] rfl rfl (by kernel_rfl) (fun _ _ _ h => h) (Or.inl ⟨by rfl, ?_⟩) ?_ ?_
 rotate_left
 ·intro w'
  go_simp
  with_reducible rfl
 rotate_left
 ·simp only [Act.put, sA_, sB_, sC_, i64_w, i32_w]
  rfl
 refine pure_ (i := 4) (N := some 12) (v := ?_) (a' := ?_) #[true, true, true, false, true, false, false, false, false, false, false, false, false, false, false] rfl rfl (by kernel_rfl) (fun _ _ _ h => h) (Or.inl ⟨by rfl, ?_⟩) ?_ ?_
 rotate_left
 ·intro w'
  go_simp
  with_reducible rfl
 rotate_left
 ·simp only [Act.put, sA_, sB_, sC_, i64_w, i32_w]
  rfl
 refine pure_ (i := 5) (N := some 13) (v := ?_) (a' := ?_) #[true, true, true, false, true, true, false, false, false, false, false, false, false, false, false] rfl rfl (by kernel_rfl) (fun _ _ _ h => h) (Or.inl ⟨by rfl, ?_⟩) ?_ ?_
 rotate_left
 ·intro w'
  go_simp
  with_reducible rfl
 rotate_left
 ·simp only [Act.put, sA_, sB_, sC_, i64_w, i32_w]
  rfl
 refine pure_ (i := 6) (N := some 14) (v := ?_) (a' := ?_) #[true, true, true, false, true, true, true, false, false, false, false, false, false, false, false] rfl rfl (by kernel_rfl) (fun _ _ _ h => h) (Or.inl ⟨by rfl, ?_⟩) ?_ ?_
 rotate_left
 ·intro w'
  go_simp
  with_reducible rfl
 rotate_left
 ·simp only [Act.put, sA_, sB_, sC_, i64_w, i32_w]
  rfl
 refine pure_ (i := 8) (N := some 16) (v := ?_) (a' := ?_) #[true, true, true, false, true, true, true, false, true, false, false, false, false, false, false] rfl rfl (by kernel_rfl) (fun _ _ _ h => h) (Or.inl ⟨by rfl, ?_⟩) ?_ ?_
 rotate_left
 ·intro w'
  go_simp
  with_reducible rfl
 rotate_left
 ·simp only [Act.put, sA_, sB_, sC_, i64_w, i32_w]
  rfl
 refine take_ (i := 3) (N := some 11) (v := ?_) (a' := ?_) #[true, true, true, true, true, true, true, false, true, false, false, false, false, false, false] rfl rfl (by kernel_rfl) (fun _ _ _ h => h) (Or.inl ⟨by rfl, ?_⟩) hHeld ?_ ?_
 rotate_left
 ·rintro w' ⟨s0, s1⟩
  go_simp
  with_reducible rfl
 rotate_left
 ·simp only [Act.put, sA_, sB_, sC_, i64_w, i32_w]
  rfl
 refine take_ (i := 7) (N := some 15) (v := ?_) (a' := ?_) #[true, true, true, true, true, true, true, true, true, false, false, false, false, false, false] rfl rfl (by kernel_rfl) (fun _ _ _ h => h) (Or.inl ⟨by rfl, ?_⟩) hHeld ?_ ?_
 rotate_left
 ·rintro w' ⟨s0, s1⟩
  go_simp
  with_reducible rfl
 rotate_left
 ·simp only [Act.put, sA_, sB_, sC_, i64_w, i32_w]
  rfl
 refine one_ (i := 9) (N := some 17) #[true, true, true, true, true, true, true, true, true, true, false, false, false, false, false] rfl rfl (by kernel_rfl) (by decide) (fun K hK => ?_)
 refine goes_ Try.func27 (by kernel_rfl) rfl #[.slice A b.length c, .int .i64 (p : Int), .int .i64 (wd : Int)] (by rfl) rfl rfl (by first | (simp only [List.map_toArray, List.map_cons, List.map_nil]; done) | (simp only [List.map_toArray, List.map_cons, List.map_nil]; rfl) | rfl) ?_; with_reducible refine (at_calls_eq A c b (p : Int) (wd : Int) r1 r2 _ (Kd.C_below HR.out HB.out) HC.out HBY.out HL.out (by have := HW.out; omega) HA.out).mono ?_; rintro e w8 ⟨rfl, hb⟩; refine ⟨_, rfl, ?_⟩
 have n0_ := Aside0.mk (below_step (by repeat (first | exact HB.out | apply below_alloc | apply pw_below_drewN | apply below_drew1)) hb); have n1_ := Aside0.mk (Sep.below (by repeat (first | exact HS.out | apply sep_alloc | apply sep_drewN | apply sep_drew)) hb); clear HB HS; have HB := n0_; have HS := n1_; clear n0_ n1_ hb
 refine hK.out _ _ ⟨Sep.c30 HS.out, Sep.c31 HS.out⟩ (fun hHeld => ?_)
 clear hK K
 refine norm_ (a' := ?_) ?_ ?_
 rotate_left
 ·show Act.put _ (some 17) _ = _
  simp only [Act.put, sA_, sB_, sC_, i64_w, i32_w]
  rfl
 refine pure_ (i := 10) (N := some 7) (v := ?_) (a' := ?_) #[true, true, true, true, true, true, true, true, true, true, true, false, false, false, false] rfl rfl (by kernel_rfl) (fun _ _ _ h => h) (Or.inl ⟨by rfl, ?_⟩) ?_ ?_
 rotate_left
 ·intro w'
  go_simp
  with_reducible rfl
 rotate_left
 ·simp only [Act.put, sA_, sB_, sC_, i64_w, i32_w]
  rfl
 refine pure_ (i := 11) (N := some 18) (v := ?_) (a' := ?_) #[true, true, true, true, true, true, true, true, true, true, true, true, false, false, false] rfl rfl (by kernel_rfl) (fun _ _ _ h => h) (Or.inl ⟨by rfl, ?_⟩) ?_ ?_
 rotate_left
 ·intro w'
  go_simp
  with_reducible rfl
 rotate_left
 ·simp only [Act.put, sA_, sB_, sC_, i64_w, i32_w]
  rfl
 refine pure_ (i := 12) (N := some 19) (v := ?_) (a' := ?_) #[true, true, true, true, true, true, true, true, true, true, true, true, true, false, false] rfl rfl (by kernel_rfl) (fun _ _ _ h => h) (Or.inl ⟨by rfl, ?_⟩) ?_ ?_
 rotate_left
 ·intro w'
  go_simp
  with_reducible rfl
 rotate_left
 ·simp only [Act.put, sA_, sB_, sC_, i64_w, i32_w]
  rfl
 refine pure_ (i := 13) (N := some 5) (v := ?_) (a' := ?_) #[true, true, true, true, true, true, true, true, true, true, true, true, true, true, false] rfl rfl (by kernel_rfl) (fun _ _ _ h => h) (Or.inl ⟨by rfl, ?_⟩) ?_ ?_
 rotate_left
 ·intro w'
  go_simp
  with_reducible rfl
 rotate_left
 ·simp only [Act.put, sA_, sB_, sC_, i64_w, i32_w]
  rfl
 refine pure_ (i := 14) (N := some 6) (v := ?_) (a' := ?_) #[true, true, true, true, true, true, true, true, true, true, true, true, true, true, true] rfl rfl (by kernel_rfl) (fun _ _ _ h => h) (Or.inl ⟨by rfl, ?_⟩) ?_ ?_
 rotate_left
 ·intro w'
  go_simp
  with_reducible rfl
 rotate_left
 ·simp only [Act.put, sA_, sB_, sC_, i64_w, i32_w]
  rfl
 refine done_ (by kernel_rfl) ?_
 have hc1 := Sep.c31 HS.out
 have hc2 := Sep.c32 HS.out
 have hf1 := Sep.free HS.out 1
 have hf2 := Sep.free HS.out 2
 cases bad
 ·simp only [Bool.false_or] at hb'
  subst hb'
  go_wp2
  go_ret
  exact ⟨rfl, Turned.of_sep (mk := fun _ => tkR g (.slice A b.length c) q (r2 != 0)) (F' := fun _ => True) ((HS.out.s32 _).s31 _) HB0.out (below_set (below_set HB.out HS.out.ge) HS.out.ge)⟩
 ·simp only [Bool.true_or] at hb'
  subst hb'
  go_wp2
  go_ret
  exact ⟨rfl, Turned.of_sep (mk := fun _ => tkR g (.slice A b.length c) q true) (F' := fun _ => True) ((HS.out.s32 _).s31 _) HB0.out (below_set (below_set HB.out HS.out.ge) HS.out.ge)⟩
end Go.Proofs.Ythkpnnbjcendcaa.Sc
end
section
open Go.RowKit Go.Proofs.Ythkpnnbjcendcaa.X Go.Proofs.Ythkpnnbjcendcaa.Pl Go.Proofs.YthkpnnbjcendcaaW.PrintWords Go.Proofs.YthkpnnbjcendcaaW.PrintLast Go.Proofs.YthkpnnbjcendcaaW.PrintMore
namespace Go.Proofs.Ythkpnnbjcendcaa.Pure
theorem xor_i64 (a : Nat) (b : Int) : Go.bits .xor .i64 (a : Int) b = wrap64 ((BitVec.ofNat 64 a ^^^ BitVec.ofInt 64 b).toNat : Int) := by
 show IntKind.i64.wrap ((BitVec.ofInt 64 (a : Int) ^^^ BitVec.ofInt 64 b).toNat : Int) = _
 rw [BitVec.ofInt_natCast]
 exact i64_w _
theorem open_f {u : Nat} (h : u < 2 ^ 64) : octs_Open.f (u : Int) = some (openN u) := by
 have hand : Go.bits .and .u64 (u : Int) 1 = ((u % 2 : Nat) : Int) := by
  have := (bits_nat .u64 64 (by decide) (fun n h0 h1 => w_u64 h0 h1) u 1 h (by decide)).1
  rw [show (1 : Int) = ((1 : Nat) : Int) from rfl, this, Nat.and_one_is_mod]
 unfold octs_Open.f openN
 rw [hand, show ((u : Nat) : Int) / 2 = ((u / 2 : Nat) : Int) by omega, w64 (x := ((u / 2 : Nat) : Int)) (by omega) (by omega), xor_i64]
 rcases Nat.mod_two_eq_zero_or_one u with h0 | h1
 ·rw [h0, if_neg (by decide), show wrap64 (-(wrap64 ((0 : Nat) : Int))) = 0 by unfold wrap64; decide, show BitVec.ofInt 64 0 = 0#64 by decide, BitVec.xor_zero, BitVec.toNat_ofNat, Nat.mod_eq_of_lt (by omega), w64 (by omega) (by omega)]
 ·rw [h1, if_pos rfl, show wrap64 (-(wrap64 ((1 : Nat) : Int))) = -1 by unfold wrap64; decide, show BitVec.ofInt 64 (-1) = BitVec.allOnes 64 by decide, BitVec.xor_allOnes, BitVec.toNat_not, BitVec.toNat_ofNat, Nat.mod_eq_of_lt (by omega)]
  congr 1
  unfold wrap64
  omega
theorem ref_open_f {u : Nat} (h : u < 2 ^ 64) : marigraphref01_Open.f (u : Int) = some (openN u) := by
 unfold marigraphref01_Open.f openN
 rw [tmod_pos (by omega), tdiv_pos (by omega), show ((u : Nat) : Int) / 2 = ((u / 2 : Nat) : Int) by omega, w_u64 (n := ((u / 2 : Nat) : Int)) (by omega) (by omega), w64 (x := ((u / 2 : Nat) : Int)) (by omega) (by omega)]
 rcases Nat.mod_two_eq_zero_or_one u with h0 | h1
 ·rw [if_neg (by omega), if_neg (by omega)]
 ·rw [if_pos (by omega), if_pos h1, w64 (x := -((u / 2 : Nat) : Int)) (by omega) (by omega), w64 (by omega) (by omega)]
theorem ones_next {b : List Int} {p j : Nat} (h : j ≤ onesAt b p) : j < onesAt b p ↔ j < 4 ∧ p + j + 1 ≤ 8 * b.length ∧ bt b (p + j) = 1 := by
 unfold onesAt at h ⊢
 by_cases c0 : p + 1 ≤ 8 * b.length ∧ bt b p = 1
 ·rw [if_neg (by simpa using c0)] at h ⊢
  by_cases c1 : p + 2 ≤ 8 * b.length ∧ bt b (p + 1) = 1
  ·rw [if_neg (by simpa using c1)] at h ⊢
   by_cases c2 : p + 3 ≤ 8 * b.length ∧ bt b (p + 2) = 1
   ·rw [if_neg (by simpa using c2)] at h ⊢
    by_cases c3 : p + 4 ≤ 8 * b.length ∧ bt b (p + 3) = 1
    ·rw [if_neg (by simpa using c3)] at h ⊢
     rcases (by omega : j = 0 ∨ j = 1 ∨ j = 2 ∨ j = 3 ∨ j = 4) with rfl | rfl | rfl | rfl | rfl <;> simp_all
    ·rw [if_pos c3] at h ⊢
     rcases (by omega : j = 0 ∨ j = 1 ∨ j = 2 ∨ j = 3) with rfl | rfl | rfl | rfl <;> simp_all [Nat.add_assoc]
   ·rw [if_pos c2] at h ⊢
    rcases (by omega : j = 0 ∨ j = 1 ∨ j = 2) with rfl | rfl | rfl <;> simp_all [Nat.add_assoc]
  ·rw [if_pos c1] at h ⊢
   rcases (by omega : j = 0 ∨ j = 1) with rfl | rfl <;> simp_all [Nat.add_assoc]
 ·rw [if_pos c0] at h ⊢
  obtain rfl : j = 0 := by omega
  simpa using c0
end Go.Proofs.Ythkpnnbjcendcaa.Pure
end
section
open Go.RowKit Go.Proofs.Ythkpnnbjcendcaa.X Go.Proofs.Ythkpnnbjcendcaa.Pl Go.Proofs.Ythkpnnbjcendcaa.Sp Go.Proofs.Ythkpnnbjcendcaa.Pure Go.Proofs.YthkpnnbjcendcaaW.PrintWords Go.Proofs.YthkpnnbjcendcaaW.PrintLast Go.Proofs.YthkpnnbjcendcaaW.PrintMore
namespace Go.Proofs.Ythkpnnbjcendcaa.Sc
def MarkR (mk : Nat → Bool → Res) (g : Nat) (dec : Option (Int × Nat)) (p : Nat) (bad : Bool) (w0 w : World) (e : Ending) (w' : World) : Prop :=
 ∃ (v : Int) (q : Nat) (bad' : Bool), e = .returned (.int .i64 v) ∧ Turned w0 w w' (fun k => k = g) (fun _ => mk q bad') ∧ q ≤ p + 68 ∧ (bad = true → bad' = true) ∧ (∀ n p', dec = some (n, p') → bad = false → bad' = false ∧ v = n ∧ q = p') ∧ (dec = none → bad' = true)
theorem tktake_n (g : Nat) (A : Option Addr) (c : Nat) (b : List Int) (p wd : Nat) (bad : Bool) (r1 r2 : Int) (bad' : Bool) (wi : Int) (q : Nat) (w0 w : World) (hwi : wi = (wd : Int)) (hq : q = p + wd) (hB : Below w0.heap.size w0 w) (hO : Own w0.heap.size w (tkR g (.slice A b.length c) p bad)) (hr : Kd.C (Kd.int .u8) w0 A b.length b) (hc : b.length ≤ c) (hby : Byt b) (hl : b.length < 1000000)
  (hw : wd ≤ 64) (hp : p < 1000000000) (ha : atR b (p : Int) (wd : Int) = (r1, r2)) (hb' : bad' = (bad || (r2 != 0))) :
  Calls Try.prog 101 #[.pointer (some ⟨g, 0, none⟩), .int .i64 wi] w fun e w' => e = .returned (.int .u64 r1) ∧ Turned w0 w w' (fun k => k = g) (fun _ => tkR g (.slice A b.length c) q bad') := by
 subst hwi hq
 exact tktake_calls g A c b p wd bad r1 r2 bad' w0 w hB hO hr hc hby hl hw hp ha hb'
theorem open_calls (u : Nat) (w : World) (h : u < 2 ^ 64) : Calls Try.prog 102 #[.int .u64 (u : Int)] w fun e w' => e = .returned (.int .i64 (openN u)) ∧ Below w.heap.size w w' := by
 refine (octs_Open.calls _ _ w (open_f h)).mono ?_
 rintro e w' ⟨rfl, hd⟩
 exact ⟨rfl, hd.below⟩
theorem open_n (ui : Int) (u : Nat) (w : World) (hu : ui = (u : Int)) (h : u < 2 ^ 64) : Calls Try.prog 102 #[.int .u64 ui] w fun e w' => e = .returned (.int .i64 (openN u)) ∧ Below w.heap.size w w' := hu ▸ open_calls u w h
theorem dec_X {b : List Int} {p k : Nat} (hk : onesAt b p = k) (h : p + headW k + wid k ≤ 8 * b.length) : decM b p = some (k, val b (p + headW k) (wid k), p + headW k + wid k) := by
 unfold decM
 rw [hk, if_pos h]
theorem dec_Y {b : List Int} {p k : Nat} (hk : onesAt b p = k) (h : ¬ p + headW k + wid k ≤ 8 * b.length) : decS b p = none := by
 unfold decS decM
 rw [hk, if_neg h]
theorem decS_X {b : List Int} {p k u q : Nat} (h : decM b p = some (k, u, q)) (hc : ¬(0 < k ∧ u < 2 ^ wid (k - 1))) : decS b p = some (openN u, q) := by
 unfold decS
 rw [h]
 exact if_neg hc
theorem decS_N {b : List Int} {p k u q : Nat} (h : decM b p = some (k, u, q)) (hc : 0 < k ∧ u < 2 ^ wid (k - 1)) : decS b p = none := by
 unfold decS
 rw [h]
 exact if_pos hc
set_option maxHeartbeats 16000000 in
set_option maxRecDepth 100000 in
theorem tkmark_calls (g : Nat) (A : Option Addr) (c : Nat) (b : List Int) (p : Nat) (bad : Bool) (w0 w : World) (hB : Below w0.heap.size w0 w) (hO : Own w0.heap.size w (tkR g (.slice A b.length c) p bad)) (hr : Kd.C (Kd.int .u8) w0 A b.length b) (hc : b.length ≤ c) (hby : Byt b) (hl : b.length < 1000000) (hp : p < 900000000) :
  Calls Try.prog 77 #[.pointer (some ⟨g, 0, none⟩)] w fun e w' => MarkR (tkR g (.slice A b.length c)) g (decS b p) p bad w0 w e w' := by
 have HB0 := Aside0.mk hB
 have HB := Aside0.mk hB
 have HS := Aside0.mk (Sep.start hO)
 have HR := Aside0.mk hr
 have HC := Aside0.mk hc
 have HBY := Aside0.mk hby
 have HL := Aside0.mk hl
 have HP := Aside0.mk hp
 clear hB hO hr hc hby hl hp
 go_enter Try.func77, Try.ntmps77
 go_wp2
 refine Go_.wp_scope_ghost_k 0 (fun kq a_ w_ => ∃ (u1 u2 u3 u4 u5 u6 u7 u8 u9 u10 u11 u12 u13 u14 u15 u16 u17 u18 u19 u20 u21 u22 u23 u24 u25 u26 u27 u28 u29 u30 u31 u32 u33 u34 u35 u36 : Value), (∃ (j : Nat), u3 = .int .i64 (j : Int) ∧ Aside0 (kq + j = 4 ∧ j ≤ onesAt b p) ∧ Aside0 (Sep w0.heap.size w_ [tkR g (.slice A b.length c) (p + j) bad, frameR w0.heap.size w (tkR g (.slice A b.length c) p bad).foot]) ∧ Aside0 (Below w0.heap.size w0 w_)) ∧ a_ = { tmps := #[.pointer (some ⟨g, 0, none⟩), u1, u2, u3, u4, u5, u6, u7, u8, u9, u10, u11, u12, u13, u14, u15, u16, u17, u18, u19, u20, u21, u22, u23, u24, u25, u26, u27, u28, u29, u30, u31, u32, u33, u34, u35, u36], defers := [] }) rfl ?pass ?first
 case pass =>
  clear HS HB
  intro gk a_ wr hinv
  obtain ⟨u1, u2, u3, u4, u5, u6, u7, u8, u9, u10, u11, u12, u13, u14, u15, u16, u17, u18, u19, u20, u21, u22, u23, u24, u25, u26, u27, u28, u29, u30, u31, u32, u33, u34, u35, u36, ⟨j, rfl, HI, HS, HB⟩, rfl⟩ := hinv
  intro J K hJ hK
  have hle := HI.out.2
  by_cases hj : j < onesAt b p
  ·have hn := (ones_next hle).1 hj
   have HA := Aside0.mk (show atR b ((p + j : Nat) : Int) ((1 : Nat) : Int) = (1, 0) by rw [atR_ok (by omega) (by omega), val_one, hn.2.2]; rfl)
   have c1b : decide ((j : Int) < 4) = true := decide_eq_true (by omega)
   have c1n : decide (j < 4) = true := decide_eq_true hn.1
   have hnx : wrap64 ((j : Int) + 1) = ((j + 1 : Nat) : Int) := by rw [w64 (by omega) (by omega)]; simp
   obtain ⟨k1, rfl⟩ : ∃ q, gk = q + 1 := ⟨gk - 1, by have := HI.out; omega⟩
   have HX := Aside0.mk hnx
   have HJ := Aside0.mk hj
   have HN4 := Aside0.mk hn.1
   clear hnx hn hj hle
   go_wp2_with (first
    | ((with_reducible refine gate_dst (N := 10) rfl ?_); (try (refine gate_guard (by rfl) ?_; dsimp only)); refine goesL_ (some 10) rfl rfl Try.func101 (by kernel_rfl) rfl #[.pointer (some ⟨g, 0, none⟩), .int .i64 1] rfl (by (try simp only [List.map_toArray, List.map_cons, List.map_nil]); first | done | rfl) ?_; (with_reducible refine (tktake_n g A c b (p + j) 1 bad 1 0 bad 1 (p + (j + 1)) w0 _ rfl (by omega) HB.out HS.out.own HR.out HC.out HBY.out HL.out (by omega) (by have := HP.out; have := HN4.out; omega) HA.out (by simp)).mono ?_); rintro e w8 ⟨rfl, ht⟩; refine ⟨_, rfl, ?_⟩; obtain ⟨F_, hs_⟩ := Turned.sep ht (HS.out) rfl; have n0_ := Aside0.mk (Turned.below ht); clear HB HS ht; have HB := n0_; have HS := Aside0.mk hs_; clear n0_ hs_))
   repeat (go_quiet (fail); try go_wp2)
   go_step3
   refine ⟨rfl, hK _ _ (Handed.intro k1 ?measure (hJ _ _ _ ?_))⟩
   rotate_left
   (repeat apply Exists.intro)
   refine ⟨?rel, rfl⟩
   case measure => omega
   case rel => exact ⟨j + 1, (by first | rfl | rw [HX.out]), ⟨by have := HI.out; omega, HJ.out⟩, HS, HB⟩
  ·have hk : onesAt b p = j := by omega
   have hn := mt (ones_next hle).2 hj
   have hj4 := ones_le b p
   rw [hk] at hj4
   have HK := Aside0.mk hk
   have i0 := wid0
   have i1 := wid1
   have i2 := wid2
   have i3 := wid3
   have i4 := wid4
   rcases (by omega : j = 0 ∨ j = 1 ∨ j = 2 ∨ j = 3 ∨ j = 4) with rfl | rfl | rfl | rfl | rfl
   ·obtain ⟨r1, r2, hA1, hne⟩ : ∃ r1 r2, atR b ((p + 0 : Nat) : Int) ((1 : Nat) : Int) = (r1, r2) ∧ (r1 == 1) = false ∧ (p + 1 ≤ 8 * b.length → r2 = 0) := by
     by_cases hin : p + 0 + 1 ≤ 8 * b.length
     ·refine ⟨_, _, atR_ok (by omega) hin, ?_, fun _ => rfl⟩
      have := bt_lt b (p + 0)
      rw [val_one, beq_eq_false_iff_ne]
      have h1 : ¬ bt b (p + 0) = 1 := fun h => hn ⟨by omega, hin, h⟩
      omega
     ·exact ⟨_, _, atR_bad (by omega) (by omega), rfl, fun h => absurd h (by omega)⟩
    obtain ⟨hne, hr2⟩ := hne
    have HA1 := Aside0.mk hA1
    obtain ⟨bad1, hbad1⟩ : ∃ x, x = (bad || (r2 != 0)) := ⟨_, rfl⟩
    have HB1 := Aside0.mk hbad1
    by_cases hq : p + 1 + 0 ≤ 8 * b.length
    ·have HA2 := Aside0.mk (show atR b ((p + 1 : Nat) : Int) ((0 : Nat) : Int) = ((val b (p + 1) 0 : Int), 0) from atR_ok (by omega) hq)
     have HD := Aside0.mk (dec_X (b := b) (p := p) (k := 0) HK.out hq)
     have hdd := HD.out
     rw [show wid 0 = 0 from rfl, show headW 0 = 1 from rfl] at hdd
     have hu0 := val_lt b (p + 1) 0
     obtain ⟨u, hu⟩ : ∃ u, u = val b (p + 1) 0 := ⟨_, rfl⟩
     rw [← hu] at HA2 hu0 hdd
     have hb1 : bad1 = bad := by rw [hbad1, hr2 (by omega)]; simp
     have HBB := Aside0.mk hb1
     have HU := Aside0.mk (show u < 2 ^ 64 from Nat.lt_of_lt_of_le hu0 (by decide))
     have HD2 := Aside0.mk hdd
     clear hq hu hu0 hb1 hbad1 hdd HD hk hn hj hj4 hle hA1 hr2
     go_wp2_with (first
      | (go_at_call 97; ((with_reducible refine (steps_widths.calls 0 7 14 32 64 _ rfl).mono ?_); rintro e w2 ⟨rfl, hb⟩; have n0_ := Aside0.mk (below_step (by repeat (first | exact HB.out | apply below_alloc | apply pw_below_drewN | apply below_drew1)) hb); have n1_ := Aside0.mk (Sep.below (by repeat (first | exact HS.out | apply sep_alloc | apply sep_drewN | apply sep_drew)) hb); clear HB HS; have HB := n0_; have HS := n1_; clear n0_ n1_ hb; (try clear hf2 hc2); have hf2 := Sep.free HS.out 2; have hc2 := Sep.c32 HS.out))
      | ((with_reducible refine gate_dst (N := 10) rfl ?_); (try (refine gate_guard (by rfl) ?_; dsimp only)); refine goesL_ (some 10) rfl rfl Try.func101 (by kernel_rfl) rfl #[.pointer (some ⟨g, 0, none⟩), .int .i64 1] rfl (by (try simp only [List.map_toArray, List.map_cons, List.map_nil]); first | done | rfl) ?_; (with_reducible refine (tktake_n g A c b (p + 0) 1 bad r1 r2 bad1 1 (p + 1) w0 _ rfl (by omega) HB.out HS.out.own HR.out HC.out HBY.out HL.out (by omega) (by have := HP.out; omega) HA1.out HB1.out).mono ?_); rintro e w8 ⟨rfl, ht⟩; refine ⟨_, rfl, ?_⟩; obtain ⟨F_, hs_⟩ := Turned.sep ht (HS.out) rfl; have n0_ := Aside0.mk (Turned.below ht); clear HB HS ht; have HB := n0_; have HS := Aside0.mk hs_; clear n0_ hs_)
      | ((with_reducible refine gate_dst (N := 20) rfl ?_); (try (refine gate_guard (by rfl) ?_; dsimp only)); refine goesL_ (some 20) rfl rfl Try.func101 (by kernel_rfl) rfl #[.pointer (some ⟨g, 0, none⟩), .int .i64 0] rfl (by (try simp only [List.map_toArray, List.map_cons, List.map_nil]); first | done | rfl) ?_; (with_reducible refine (tktake_n g A c b (p + 1) 0 bad1 (u : Int) 0 bad1 0 (p + 1 + 0) w0 _ rfl (by omega) HB.out HS.out.own HR.out HC.out HBY.out HL.out (by omega) (by have := HP.out; omega) HA2.out (by simp)).mono ?_); rintro e w9 ⟨rfl, ht⟩; refine ⟨_, rfl, ?_⟩; obtain ⟨F_, hs_⟩ := Turned.sep ht (HS.out) rfl; have n0_ := Aside0.mk (Turned.below ht); clear HB HS ht; have HB := n0_; have HS := Aside0.mk hs_; clear n0_ hs_; (try clear hf2 hc2); have hf2 := Sep.free HS.out 2; have hc2 := Sep.c32 HS.out)
      | (go_at_call 102; ((with_reducible refine (open_n (u : Int) u _ (by simp) HU.out).mono ?_); rintro e w3 ⟨rfl, hb⟩; have n0_ := Aside0.mk (below_step (by repeat (first | exact HB.out | apply below_alloc | apply pw_below_drewN | apply below_drew1)) hb); have n1_ := Aside0.mk (Sep.below (by repeat (first | exact HS.out | apply sep_alloc | apply sep_drewN | apply sep_drew)) hb); clear HB HS; have HB := n0_; have HS := n1_; clear n0_ n1_ hb)))
     (try simp only [Exit.jump]); go_ret
     exact ⟨openN u, p + 1 + 0, bad1, rfl, Turned.of_sep (mk := fun _ => tkR g (.slice A b.length c) (p + 1 + 0) bad1) (F' := fun _ => True) HS.out HB0.out HB.out, by omega, (fun h => by rw [HBB.out, h]), (fun n p' h h2 => by rw [decS_X HD2.out (by omega)] at h; injection h with h; injection h with h3 h4; exact ⟨by rw [HBB.out, h2], h3, h4⟩), (fun h => by rw [decS_X HD2.out (by omega)] at h; cases h)⟩
    ·have HA2 := Aside0.mk (show atR b ((p + 1 : Nat) : Int) ((0 : Nat) : Int) = (0, 2) from atR_bad (by omega) (by omega))
     have HN := Aside0.mk (show decS b p = none from dec_Y (k := 0) HK.out hq)
     clear hq hbad1 hk hn hj hj4 hle hA1 hr2
     go_wp2_with (first
      | (go_at_call 97; ((with_reducible refine (steps_widths.calls 0 7 14 32 64 _ rfl).mono ?_); rintro e w2 ⟨rfl, hb⟩; have n0_ := Aside0.mk (below_step (by repeat (first | exact HB.out | apply below_alloc | apply pw_below_drewN | apply below_drew1)) hb); have n1_ := Aside0.mk (Sep.below (by repeat (first | exact HS.out | apply sep_alloc | apply sep_drewN | apply sep_drew)) hb); clear HB HS; have HB := n0_; have HS := n1_; clear n0_ n1_ hb; (try clear hf2 hc2); have hf2 := Sep.free HS.out 2; have hc2 := Sep.c32 HS.out))
      | ((with_reducible refine gate_dst (N := 10) rfl ?_); (try (refine gate_guard (by rfl) ?_; dsimp only)); refine goesL_ (some 10) rfl rfl Try.func101 (by kernel_rfl) rfl #[.pointer (some ⟨g, 0, none⟩), .int .i64 1] rfl (by (try simp only [List.map_toArray, List.map_cons, List.map_nil]); first | done | rfl) ?_; (with_reducible refine (tktake_n g A c b (p + 0) 1 bad r1 r2 bad1 1 (p + 1) w0 _ rfl (by omega) HB.out HS.out.own HR.out HC.out HBY.out HL.out (by omega) (by have := HP.out; omega) HA1.out HB1.out).mono ?_); rintro e w8 ⟨rfl, ht⟩; refine ⟨_, rfl, ?_⟩; obtain ⟨F_, hs_⟩ := Turned.sep ht (HS.out) rfl; have n0_ := Aside0.mk (Turned.below ht); clear HB HS ht; have HB := n0_; have HS := Aside0.mk hs_; clear n0_ hs_)
      | ((with_reducible refine gate_dst (N := 20) rfl ?_); (try (refine gate_guard (by rfl) ?_; dsimp only)); refine goesL_ (some 20) rfl rfl Try.func101 (by kernel_rfl) rfl #[.pointer (some ⟨g, 0, none⟩), .int .i64 0] rfl (by (try simp only [List.map_toArray, List.map_cons, List.map_nil]); first | done | rfl) ?_; (with_reducible refine (tktake_n g A c b (p + 1) 0 bad1 0 2 true 0 (p + 1 + 0) w0 _ rfl (by omega) HB.out HS.out.own HR.out HC.out HBY.out HL.out (by omega) (by have := HP.out; omega) HA2.out (by simp)).mono ?_); rintro e w9 ⟨rfl, ht⟩; refine ⟨_, rfl, ?_⟩; obtain ⟨F_, hs_⟩ := Turned.sep ht (HS.out) rfl; have n0_ := Aside0.mk (Turned.below ht); clear HB HS ht; have HB := n0_; have HS := Aside0.mk hs_; clear n0_ hs_; (try clear hf2 hc2); have hf2 := Sep.free HS.out 2; have hc2 := Sep.c32 HS.out)
      | (go_at_call 102; ((with_reducible refine (open_n 0 0 _ (by simp) (by decide)).mono ?_); rintro e w3 ⟨rfl, hb⟩; have n0_ := Aside0.mk (below_step (by repeat (first | exact HB.out | apply below_alloc | apply pw_below_drewN | apply below_drew1)) hb); have n1_ := Aside0.mk (Sep.below (by repeat (first | exact HS.out | apply sep_alloc | apply sep_drewN | apply sep_drew)) hb); clear HB HS; have HB := n0_; have HS := n1_; clear n0_ n1_ hb)))
     (try simp only [Exit.jump]); go_ret
     exact ⟨openN 0, p + 1 + 0, true, rfl, Turned.of_sep (mk := fun _ => tkR g (.slice A b.length c) (p + 1 + 0) true) (F' := fun _ => True) HS.out HB0.out HB.out, by omega, (fun _ => rfl), (fun n p' h h2 => by rw [HN.out] at h; cases h), (fun _ => rfl)⟩
   ·obtain ⟨r1, r2, hA1, hne⟩ : ∃ r1 r2, atR b ((p + 1 : Nat) : Int) ((1 : Nat) : Int) = (r1, r2) ∧ (r1 == 1) = false ∧ (p + 2 ≤ 8 * b.length → r2 = 0) := by
     by_cases hin : p + 1 + 1 ≤ 8 * b.length
     ·refine ⟨_, _, atR_ok (by omega) hin, ?_, fun _ => rfl⟩
      have := bt_lt b (p + 1)
      rw [val_one, beq_eq_false_iff_ne]
      have h1 : ¬ bt b (p + 1) = 1 := fun h => hn ⟨by omega, hin, h⟩
      omega
     ·exact ⟨_, _, atR_bad (by omega) (by omega), rfl, fun h => absurd h (by omega)⟩
    obtain ⟨hne, hr2⟩ := hne
    have HA1 := Aside0.mk hA1
    obtain ⟨bad1, hbad1⟩ : ∃ x, x = (bad || (r2 != 0)) := ⟨_, rfl⟩
    have HB1 := Aside0.mk hbad1
    by_cases hq : p + 2 + 7 ≤ 8 * b.length
    ·have HA2 := Aside0.mk (show atR b ((p + 2 : Nat) : Int) ((7 : Nat) : Int) = ((val b (p + 2) 7 : Int), 0) from atR_ok (by omega) hq)
     have HD := Aside0.mk (dec_X (b := b) (p := p) (k := 1) HK.out hq)
     have hdd := HD.out
     rw [show wid 1 = 7 from rfl, show headW 1 = 2 from rfl] at hdd
     have hu0 := val_lt b (p + 2) 7
     obtain ⟨u, hu⟩ : ∃ u, u = val b (p + 2) 7 := ⟨_, rfl⟩
     rw [← hu] at HA2 hu0 hdd
     have hb1 : bad1 = bad := by rw [hbad1, hr2 (by omega)]; simp
     have HBB := Aside0.mk hb1
     have HU := Aside0.mk (show u < 2 ^ 64 from Nat.lt_of_lt_of_le hu0 (by decide))
     have HD2 := Aside0.mk hdd
     by_cases hcn : u < 1
     ·have hz : ((u : Int) / 1 == 0) = true := by rw [beq_iff_eq]; omega
      have hz2 : (u : Int) / 1 = 0 := by omega
      have HN := Aside0.mk (show decS b p = none from decS_N HD2.out ⟨by omega, hcn⟩)
      clear hq hu hu0 hb1 hbad1 hdd HD hk hn hj hj4 hle hcn hA1 hr2
      go_wp2_with (first
       | (go_at_call 97; ((with_reducible refine (steps_widths.calls 0 7 14 32 64 _ rfl).mono ?_); rintro e w2 ⟨rfl, hb⟩; have n0_ := Aside0.mk (below_step (by repeat (first | exact HB.out | apply below_alloc | apply pw_below_drewN | apply below_drew1)) hb); have n1_ := Aside0.mk (Sep.below (by repeat (first | exact HS.out | apply sep_alloc | apply sep_drewN | apply sep_drew)) hb); clear HB HS; have HB := n0_; have HS := n1_; clear n0_ n1_ hb; (try clear hf2 hc2); have hf2 := Sep.free HS.out 2; have hc2 := Sep.c32 HS.out))
       | ((with_reducible refine gate_dst (N := 10) rfl ?_); (try (refine gate_guard (by rfl) ?_; dsimp only)); refine goesL_ (some 10) rfl rfl Try.func101 (by kernel_rfl) rfl #[.pointer (some ⟨g, 0, none⟩), .int .i64 1] rfl (by (try simp only [List.map_toArray, List.map_cons, List.map_nil]); first | done | rfl) ?_; (with_reducible refine (tktake_n g A c b (p + 1) 1 bad r1 r2 bad1 1 (p + 2) w0 _ rfl (by omega) HB.out HS.out.own HR.out HC.out HBY.out HL.out (by omega) (by have := HP.out; omega) HA1.out HB1.out).mono ?_); rintro e w8 ⟨rfl, ht⟩; refine ⟨_, rfl, ?_⟩; obtain ⟨F_, hs_⟩ := Turned.sep ht (HS.out) rfl; have n0_ := Aside0.mk (Turned.below ht); clear HB HS ht; have HB := n0_; have HS := Aside0.mk hs_; clear n0_ hs_)
       | ((with_reducible refine gate_dst (N := 20) rfl ?_); (try (refine gate_guard (by rfl) ?_; dsimp only)); refine goesL_ (some 20) rfl rfl Try.func101 (by kernel_rfl) rfl #[.pointer (some ⟨g, 0, none⟩), .int .i64 7] rfl (by (try simp only [List.map_toArray, List.map_cons, List.map_nil]); first | done | rfl) ?_; (with_reducible refine (tktake_n g A c b (p + 2) 7 bad1 (u : Int) 0 bad1 7 (p + 2 + 7) w0 _ rfl (by omega) HB.out HS.out.own HR.out HC.out HBY.out HL.out (by omega) (by have := HP.out; omega) HA2.out (by simp)).mono ?_); rintro e w9 ⟨rfl, ht⟩; refine ⟨_, rfl, ?_⟩; obtain ⟨F_, hs_⟩ := Turned.sep ht (HS.out) rfl; have n0_ := Aside0.mk (Turned.below ht); clear HB HS ht; have HB := n0_; have HS := Aside0.mk hs_; clear n0_ hs_; (try clear hf2 hc2); have hf2 := Sep.free HS.out 2; have hc2 := Sep.c32 HS.out)
       | (go_at_call 102; (have n0_ := Aside0.mk (below_set (j := 2) (v := .bool true) HB.out HS.out.ge); have n1_ := Aside0.mk (HS.out.s32 (.bool true)); clear HB HS; have HB := n0_; have HS := n1_; clear n0_ n1_; (with_reducible refine (open_n (u : Int) u _ (by simp) HU.out).mono ?_); rintro e w3 ⟨rfl, hb⟩; have n0_ := Aside0.mk (below_step (by repeat (first | exact HB.out | apply below_alloc | apply pw_below_drewN | apply below_drew1)) hb); have n1_ := Aside0.mk (Sep.below (by repeat (first | exact HS.out | apply sep_alloc | apply sep_drewN | apply sep_drew)) hb); clear HB HS; have HB := n0_; have HS := n1_; clear n0_ n1_ hb)))
      (try simp only [Exit.jump]); go_ret
      exact ⟨openN u, p + 2 + 7, true, rfl, Turned.of_sep (mk := fun _ => tkR g (.slice A b.length c) (p + 2 + 7) true) (F' := fun _ => True) HS.out HB0.out HB.out, by omega, (fun _ => rfl), (fun n p' h h2 => by rw [HN.out] at h; cases h), (fun _ => rfl)⟩
     ·have hz : ((u : Int) / 1 == 0) = false := by rw [beq_eq_false_iff_ne]; omega
      have hz2 : ((u : Int) / 1 = 0) = False := eq_false (by omega)
      have HN := Aside0.mk (show decS b p = some (openN u, p + 2 + 7) from decS_X HD2.out (by rintro ⟨_, h⟩; exact hcn h))
      clear hq hu hu0 hb1 hbad1 hdd HD hk hn hj hj4 hle hcn hA1 hr2
      go_wp2_with (first
       | (go_at_call 97; ((with_reducible refine (steps_widths.calls 0 7 14 32 64 _ rfl).mono ?_); rintro e w2 ⟨rfl, hb⟩; have n0_ := Aside0.mk (below_step (by repeat (first | exact HB.out | apply below_alloc | apply pw_below_drewN | apply below_drew1)) hb); have n1_ := Aside0.mk (Sep.below (by repeat (first | exact HS.out | apply sep_alloc | apply sep_drewN | apply sep_drew)) hb); clear HB HS; have HB := n0_; have HS := n1_; clear n0_ n1_ hb; (try clear hf2 hc2); have hf2 := Sep.free HS.out 2; have hc2 := Sep.c32 HS.out))
       | ((with_reducible refine gate_dst (N := 10) rfl ?_); (try (refine gate_guard (by rfl) ?_; dsimp only)); refine goesL_ (some 10) rfl rfl Try.func101 (by kernel_rfl) rfl #[.pointer (some ⟨g, 0, none⟩), .int .i64 1] rfl (by (try simp only [List.map_toArray, List.map_cons, List.map_nil]); first | done | rfl) ?_; (with_reducible refine (tktake_n g A c b (p + 1) 1 bad r1 r2 bad1 1 (p + 2) w0 _ rfl (by omega) HB.out HS.out.own HR.out HC.out HBY.out HL.out (by omega) (by have := HP.out; omega) HA1.out HB1.out).mono ?_); rintro e w8 ⟨rfl, ht⟩; refine ⟨_, rfl, ?_⟩; obtain ⟨F_, hs_⟩ := Turned.sep ht (HS.out) rfl; have n0_ := Aside0.mk (Turned.below ht); clear HB HS ht; have HB := n0_; have HS := Aside0.mk hs_; clear n0_ hs_)
       | ((with_reducible refine gate_dst (N := 20) rfl ?_); (try (refine gate_guard (by rfl) ?_; dsimp only)); refine goesL_ (some 20) rfl rfl Try.func101 (by kernel_rfl) rfl #[.pointer (some ⟨g, 0, none⟩), .int .i64 7] rfl (by (try simp only [List.map_toArray, List.map_cons, List.map_nil]); first | done | rfl) ?_; (with_reducible refine (tktake_n g A c b (p + 2) 7 bad1 (u : Int) 0 bad1 7 (p + 2 + 7) w0 _ rfl (by omega) HB.out HS.out.own HR.out HC.out HBY.out HL.out (by omega) (by have := HP.out; omega) HA2.out (by simp)).mono ?_); rintro e w9 ⟨rfl, ht⟩; refine ⟨_, rfl, ?_⟩; obtain ⟨F_, hs_⟩ := Turned.sep ht (HS.out) rfl; have n0_ := Aside0.mk (Turned.below ht); clear HB HS ht; have HB := n0_; have HS := Aside0.mk hs_; clear n0_ hs_; (try clear hf2 hc2); have hf2 := Sep.free HS.out 2; have hc2 := Sep.c32 HS.out)
       | (go_at_call 102; ((with_reducible refine (open_n (u : Int) u _ (by simp) HU.out).mono ?_); rintro e w3 ⟨rfl, hb⟩; have n0_ := Aside0.mk (below_step (by repeat (first | exact HB.out | apply below_alloc | apply pw_below_drewN | apply below_drew1)) hb); have n1_ := Aside0.mk (Sep.below (by repeat (first | exact HS.out | apply sep_alloc | apply sep_drewN | apply sep_drew)) hb); clear HB HS; have HB := n0_; have HS := n1_; clear n0_ n1_ hb)))
      (try simp only [Exit.jump]); go_ret
      exact ⟨openN u, p + 2 + 7, bad1, rfl, Turned.of_sep (mk := fun _ => tkR g (.slice A b.length c) (p + 2 + 7) bad1) (F' := fun _ => True) HS.out HB0.out HB.out, by omega, (fun h => by rw [HBB.out, h]), (fun n p' h h2 => by rw [HN.out] at h; injection h with h; injection h with h3 h4; exact ⟨by rw [HBB.out, h2], h3, h4⟩), (fun h => by rw [HN.out] at h; cases h)⟩
    ·have HA2 := Aside0.mk (show atR b ((p + 2 : Nat) : Int) ((7 : Nat) : Int) = (0, 2) from atR_bad (by omega) (by omega))
     have HN := Aside0.mk (show decS b p = none from dec_Y (k := 1) HK.out hq)
     clear hq hbad1 hk hn hj hj4 hle hA1 hr2
     go_wp2_with (first
      | (go_at_call 97; ((with_reducible refine (steps_widths.calls 0 7 14 32 64 _ rfl).mono ?_); rintro e w2 ⟨rfl, hb⟩; have n0_ := Aside0.mk (below_step (by repeat (first | exact HB.out | apply below_alloc | apply pw_below_drewN | apply below_drew1)) hb); have n1_ := Aside0.mk (Sep.below (by repeat (first | exact HS.out | apply sep_alloc | apply sep_drewN | apply sep_drew)) hb); clear HB HS; have HB := n0_; have HS := n1_; clear n0_ n1_ hb; (try clear hf2 hc2); have hf2 := Sep.free HS.out 2; have hc2 := Sep.c32 HS.out))
      | ((with_reducible refine gate_dst (N := 10) rfl ?_); (try (refine gate_guard (by rfl) ?_; dsimp only)); refine goesL_ (some 10) rfl rfl Try.func101 (by kernel_rfl) rfl #[.pointer (some ⟨g, 0, none⟩), .int .i64 1] rfl (by (try simp only [List.map_toArray, List.map_cons, List.map_nil]); first | done | rfl) ?_; (with_reducible refine (tktake_n g A c b (p + 1) 1 bad r1 r2 bad1 1 (p + 2) w0 _ rfl (by omega) HB.out HS.out.own HR.out HC.out HBY.out HL.out (by omega) (by have := HP.out; omega) HA1.out HB1.out).mono ?_); rintro e w8 ⟨rfl, ht⟩; refine ⟨_, rfl, ?_⟩; obtain ⟨F_, hs_⟩ := Turned.sep ht (HS.out) rfl; have n0_ := Aside0.mk (Turned.below ht); clear HB HS ht; have HB := n0_; have HS := Aside0.mk hs_; clear n0_ hs_)
      | ((with_reducible refine gate_dst (N := 20) rfl ?_); (try (refine gate_guard (by rfl) ?_; dsimp only)); refine goesL_ (some 20) rfl rfl Try.func101 (by kernel_rfl) rfl #[.pointer (some ⟨g, 0, none⟩), .int .i64 7] rfl (by (try simp only [List.map_toArray, List.map_cons, List.map_nil]); first | done | rfl) ?_; (with_reducible refine (tktake_n g A c b (p + 2) 7 bad1 0 2 true 7 (p + 2 + 7) w0 _ rfl (by omega) HB.out HS.out.own HR.out HC.out HBY.out HL.out (by omega) (by have := HP.out; omega) HA2.out (by simp)).mono ?_); rintro e w9 ⟨rfl, ht⟩; refine ⟨_, rfl, ?_⟩; obtain ⟨F_, hs_⟩ := Turned.sep ht (HS.out) rfl; have n0_ := Aside0.mk (Turned.below ht); clear HB HS ht; have HB := n0_; have HS := Aside0.mk hs_; clear n0_ hs_; (try clear hf2 hc2); have hf2 := Sep.free HS.out 2; have hc2 := Sep.c32 HS.out)
      | (go_at_call 102; (have n0_ := Aside0.mk (below_set (j := 2) (v := .bool true) HB.out HS.out.ge); have n1_ := Aside0.mk (HS.out.s32 (.bool true)); clear HB HS; have HB := n0_; have HS := n1_; clear n0_ n1_; (with_reducible refine (open_n 0 0 _ (by simp) (by decide)).mono ?_); rintro e w3 ⟨rfl, hb⟩; have n0_ := Aside0.mk (below_step (by repeat (first | exact HB.out | apply below_alloc | apply pw_below_drewN | apply below_drew1)) hb); have n1_ := Aside0.mk (Sep.below (by repeat (first | exact HS.out | apply sep_alloc | apply sep_drewN | apply sep_drew)) hb); clear HB HS; have HB := n0_; have HS := n1_; clear n0_ n1_ hb)))
     (try simp only [Exit.jump]); go_ret
     exact ⟨openN 0, p + 2 + 7, true, rfl, Turned.of_sep (mk := fun _ => tkR g (.slice A b.length c) (p + 2 + 7) true) (F' := fun _ => True) HS.out HB0.out HB.out, by omega, (fun _ => rfl), (fun n p' h h2 => by rw [HN.out] at h; cases h), (fun _ => rfl)⟩
   ·obtain ⟨r1, r2, hA1, hne⟩ : ∃ r1 r2, atR b ((p + 2 : Nat) : Int) ((1 : Nat) : Int) = (r1, r2) ∧ (r1 == 1) = false ∧ (p + 3 ≤ 8 * b.length → r2 = 0) := by
     by_cases hin : p + 2 + 1 ≤ 8 * b.length
     ·refine ⟨_, _, atR_ok (by omega) hin, ?_, fun _ => rfl⟩
      have := bt_lt b (p + 2)
      rw [val_one, beq_eq_false_iff_ne]
      have h1 : ¬ bt b (p + 2) = 1 := fun h => hn ⟨by omega, hin, h⟩
      omega
     ·exact ⟨_, _, atR_bad (by omega) (by omega), rfl, fun h => absurd h (by omega)⟩
    obtain ⟨hne, hr2⟩ := hne
    have HA1 := Aside0.mk hA1
    obtain ⟨bad1, hbad1⟩ : ∃ x, x = (bad || (r2 != 0)) := ⟨_, rfl⟩
    have HB1 := Aside0.mk hbad1
    by_cases hq : p + 3 + 14 ≤ 8 * b.length
    ·have HA2 := Aside0.mk (show atR b ((p + 3 : Nat) : Int) ((14 : Nat) : Int) = ((val b (p + 3) 14 : Int), 0) from atR_ok (by omega) hq)
     have HD := Aside0.mk (dec_X (b := b) (p := p) (k := 2) HK.out hq)
     have hdd := HD.out
     rw [show wid 2 = 14 from rfl, show headW 2 = 3 from rfl] at hdd
     have hu0 := val_lt b (p + 3) 14
     obtain ⟨u, hu⟩ : ∃ u, u = val b (p + 3) 14 := ⟨_, rfl⟩
     rw [← hu] at HA2 hu0 hdd
     have hb1 : bad1 = bad := by rw [hbad1, hr2 (by omega)]; simp
     have HBB := Aside0.mk hb1
     have HU := Aside0.mk (show u < 2 ^ 64 from Nat.lt_of_lt_of_le hu0 (by decide))
     have HD2 := Aside0.mk hdd
     by_cases hcn : u < 128
     ·have hz : ((u : Int) / 128 == 0) = true := by rw [beq_iff_eq]; omega
      have hz2 : (u : Int) / 128 = 0 := by omega
      have HN := Aside0.mk (show decS b p = none from decS_N HD2.out ⟨by omega, hcn⟩)
      clear hq hu hu0 hb1 hbad1 hdd HD hk hn hj hj4 hle hcn hA1 hr2
      go_wp2_with (first
       | (go_at_call 97; ((with_reducible refine (steps_widths.calls 0 7 14 32 64 _ rfl).mono ?_); rintro e w2 ⟨rfl, hb⟩; have n0_ := Aside0.mk (below_step (by repeat (first | exact HB.out | apply below_alloc | apply pw_below_drewN | apply below_drew1)) hb); have n1_ := Aside0.mk (Sep.below (by repeat (first | exact HS.out | apply sep_alloc | apply sep_drewN | apply sep_drew)) hb); clear HB HS; have HB := n0_; have HS := n1_; clear n0_ n1_ hb; (try clear hf2 hc2); have hf2 := Sep.free HS.out 2; have hc2 := Sep.c32 HS.out))
       | ((with_reducible refine gate_dst (N := 10) rfl ?_); (try (refine gate_guard (by rfl) ?_; dsimp only)); refine goesL_ (some 10) rfl rfl Try.func101 (by kernel_rfl) rfl #[.pointer (some ⟨g, 0, none⟩), .int .i64 1] rfl (by (try simp only [List.map_toArray, List.map_cons, List.map_nil]); first | done | rfl) ?_; (with_reducible refine (tktake_n g A c b (p + 2) 1 bad r1 r2 bad1 1 (p + 3) w0 _ rfl (by omega) HB.out HS.out.own HR.out HC.out HBY.out HL.out (by omega) (by have := HP.out; omega) HA1.out HB1.out).mono ?_); rintro e w8 ⟨rfl, ht⟩; refine ⟨_, rfl, ?_⟩; obtain ⟨F_, hs_⟩ := Turned.sep ht (HS.out) rfl; have n0_ := Aside0.mk (Turned.below ht); clear HB HS ht; have HB := n0_; have HS := Aside0.mk hs_; clear n0_ hs_)
       | ((with_reducible refine gate_dst (N := 20) rfl ?_); (try (refine gate_guard (by rfl) ?_; dsimp only)); refine goesL_ (some 20) rfl rfl Try.func101 (by kernel_rfl) rfl #[.pointer (some ⟨g, 0, none⟩), .int .i64 14] rfl (by (try simp only [List.map_toArray, List.map_cons, List.map_nil]); first | done | rfl) ?_; (with_reducible refine (tktake_n g A c b (p + 3) 14 bad1 (u : Int) 0 bad1 14 (p + 3 + 14) w0 _ rfl (by omega) HB.out HS.out.own HR.out HC.out HBY.out HL.out (by omega) (by have := HP.out; omega) HA2.out (by simp)).mono ?_); rintro e w9 ⟨rfl, ht⟩; refine ⟨_, rfl, ?_⟩; obtain ⟨F_, hs_⟩ := Turned.sep ht (HS.out) rfl; have n0_ := Aside0.mk (Turned.below ht); clear HB HS ht; have HB := n0_; have HS := Aside0.mk hs_; clear n0_ hs_; (try clear hf2 hc2); have hf2 := Sep.free HS.out 2; have hc2 := Sep.c32 HS.out)
       | (go_at_call 102; (have n0_ := Aside0.mk (below_set (j := 2) (v := .bool true) HB.out HS.out.ge); have n1_ := Aside0.mk (HS.out.s32 (.bool true)); clear HB HS; have HB := n0_; have HS := n1_; clear n0_ n1_; (with_reducible refine (open_n (u : Int) u _ (by simp) HU.out).mono ?_); rintro e w3 ⟨rfl, hb⟩; have n0_ := Aside0.mk (below_step (by repeat (first | exact HB.out | apply below_alloc | apply pw_below_drewN | apply below_drew1)) hb); have n1_ := Aside0.mk (Sep.below (by repeat (first | exact HS.out | apply sep_alloc | apply sep_drewN | apply sep_drew)) hb); clear HB HS; have HB := n0_; have HS := n1_; clear n0_ n1_ hb)))
      (try simp only [Exit.jump]); go_ret
      exact ⟨openN u, p + 3 + 14, true, rfl, Turned.of_sep (mk := fun _ => tkR g (.slice A b.length c) (p + 3 + 14) true) (F' := fun _ => True) HS.out HB0.out HB.out, by omega, (fun _ => rfl), (fun n p' h h2 => by rw [HN.out] at h; cases h), (fun _ => rfl)⟩
     ·have hz : ((u : Int) / 128 == 0) = false := by rw [beq_eq_false_iff_ne]; omega
      have hz2 : ((u : Int) / 128 = 0) = False := eq_false (by omega)
      have HN := Aside0.mk (show decS b p = some (openN u, p + 3 + 14) from decS_X HD2.out (by rintro ⟨_, h⟩; exact hcn h))
      clear hq hu hu0 hb1 hbad1 hdd HD hk hn hj hj4 hle hcn hA1 hr2
      go_wp2_with (first
       | (go_at_call 97; ((with_reducible refine (steps_widths.calls 0 7 14 32 64 _ rfl).mono ?_); rintro e w2 ⟨rfl, hb⟩; have n0_ := Aside0.mk (below_step (by repeat (first | exact HB.out | apply below_alloc | apply pw_below_drewN | apply below_drew1)) hb); have n1_ := Aside0.mk (Sep.below (by repeat (first | exact HS.out | apply sep_alloc | apply sep_drewN | apply sep_drew)) hb); clear HB HS; have HB := n0_; have HS := n1_; clear n0_ n1_ hb; (try clear hf2 hc2); have hf2 := Sep.free HS.out 2; have hc2 := Sep.c32 HS.out))
       | ((with_reducible refine gate_dst (N := 10) rfl ?_); (try (refine gate_guard (by rfl) ?_; dsimp only)); refine goesL_ (some 10) rfl rfl Try.func101 (by kernel_rfl) rfl #[.pointer (some ⟨g, 0, none⟩), .int .i64 1] rfl (by (try simp only [List.map_toArray, List.map_cons, List.map_nil]); first | done | rfl) ?_; (with_reducible refine (tktake_n g A c b (p + 2) 1 bad r1 r2 bad1 1 (p + 3) w0 _ rfl (by omega) HB.out HS.out.own HR.out HC.out HBY.out HL.out (by omega) (by have := HP.out; omega) HA1.out HB1.out).mono ?_); rintro e w8 ⟨rfl, ht⟩; refine ⟨_, rfl, ?_⟩; obtain ⟨F_, hs_⟩ := Turned.sep ht (HS.out) rfl; have n0_ := Aside0.mk (Turned.below ht); clear HB HS ht; have HB := n0_; have HS := Aside0.mk hs_; clear n0_ hs_)
       | ((with_reducible refine gate_dst (N := 20) rfl ?_); (try (refine gate_guard (by rfl) ?_; dsimp only)); refine goesL_ (some 20) rfl rfl Try.func101 (by kernel_rfl) rfl #[.pointer (some ⟨g, 0, none⟩), .int .i64 14] rfl (by (try simp only [List.map_toArray, List.map_cons, List.map_nil]); first | done | rfl) ?_; (with_reducible refine (tktake_n g A c b (p + 3) 14 bad1 (u : Int) 0 bad1 14 (p + 3 + 14) w0 _ rfl (by omega) HB.out HS.out.own HR.out HC.out HBY.out HL.out (by omega) (by have := HP.out; omega) HA2.out (by simp)).mono ?_); rintro e w9 ⟨rfl, ht⟩; refine ⟨_, rfl, ?_⟩; obtain ⟨F_, hs_⟩ := Turned.sep ht (HS.out) rfl; have n0_ := Aside0.mk (Turned.below ht); clear HB HS ht; have HB := n0_; have HS := Aside0.mk hs_; clear n0_ hs_; (try clear hf2 hc2); have hf2 := Sep.free HS.out 2; have hc2 := Sep.c32 HS.out)
       | (go_at_call 102; ((with_reducible refine (open_n (u : Int) u _ (by simp) HU.out).mono ?_); rintro e w3 ⟨rfl, hb⟩; have n0_ := Aside0.mk (below_step (by repeat (first | exact HB.out | apply below_alloc | apply pw_below_drewN | apply below_drew1)) hb); have n1_ := Aside0.mk (Sep.below (by repeat (first | exact HS.out | apply sep_alloc | apply sep_drewN | apply sep_drew)) hb); clear HB HS; have HB := n0_; have HS := n1_; clear n0_ n1_ hb)))
      (try simp only [Exit.jump]); go_ret
      exact ⟨openN u, p + 3 + 14, bad1, rfl, Turned.of_sep (mk := fun _ => tkR g (.slice A b.length c) (p + 3 + 14) bad1) (F' := fun _ => True) HS.out HB0.out HB.out, by omega, (fun h => by rw [HBB.out, h]), (fun n p' h h2 => by rw [HN.out] at h; injection h with h; injection h with h3 h4; exact ⟨by rw [HBB.out, h2], h3, h4⟩), (fun h => by rw [HN.out] at h; cases h)⟩
    ·have HA2 := Aside0.mk (show atR b ((p + 3 : Nat) : Int) ((14 : Nat) : Int) = (0, 2) from atR_bad (by omega) (by omega))
     have HN := Aside0.mk (show decS b p = none from dec_Y (k := 2) HK.out hq)
     clear hq hbad1 hk hn hj hj4 hle hA1 hr2
     go_wp2_with (first
      | (go_at_call 97; ((with_reducible refine (steps_widths.calls 0 7 14 32 64 _ rfl).mono ?_); rintro e w2 ⟨rfl, hb⟩; have n0_ := Aside0.mk (below_step (by repeat (first | exact HB.out | apply below_alloc | apply pw_below_drewN | apply below_drew1)) hb); have n1_ := Aside0.mk (Sep.below (by repeat (first | exact HS.out | apply sep_alloc | apply sep_drewN | apply sep_drew)) hb); clear HB HS; have HB := n0_; have HS := n1_; clear n0_ n1_ hb; (try clear hf2 hc2); have hf2 := Sep.free HS.out 2; have hc2 := Sep.c32 HS.out))
      | ((with_reducible refine gate_dst (N := 10) rfl ?_); (try (refine gate_guard (by rfl) ?_; dsimp only)); refine goesL_ (some 10) rfl rfl Try.func101 (by kernel_rfl) rfl #[.pointer (some ⟨g, 0, none⟩), .int .i64 1] rfl (by (try simp only [List.map_toArray, List.map_cons, List.map_nil]); first | done | rfl) ?_; (with_reducible refine (tktake_n g A c b (p + 2) 1 bad r1 r2 bad1 1 (p + 3) w0 _ rfl (by omega) HB.out HS.out.own HR.out HC.out HBY.out HL.out (by omega) (by have := HP.out; omega) HA1.out HB1.out).mono ?_); rintro e w8 ⟨rfl, ht⟩; refine ⟨_, rfl, ?_⟩; obtain ⟨F_, hs_⟩ := Turned.sep ht (HS.out) rfl; have n0_ := Aside0.mk (Turned.below ht); clear HB HS ht; have HB := n0_; have HS := Aside0.mk hs_; clear n0_ hs_)
      | ((with_reducible refine gate_dst (N := 20) rfl ?_); (try (refine gate_guard (by rfl) ?_; dsimp only)); refine goesL_ (some 20) rfl rfl Try.func101 (by kernel_rfl) rfl #[.pointer (some ⟨g, 0, none⟩), .int .i64 14] rfl (by (try simp only [List.map_toArray, List.map_cons, List.map_nil]); first | done | rfl) ?_; (with_reducible refine (tktake_n g A c b (p + 3) 14 bad1 0 2 true 14 (p + 3 + 14) w0 _ rfl (by omega) HB.out HS.out.own HR.out HC.out HBY.out HL.out (by omega) (by have := HP.out; omega) HA2.out (by simp)).mono ?_); rintro e w9 ⟨rfl, ht⟩; refine ⟨_, rfl, ?_⟩; obtain ⟨F_, hs_⟩ := Turned.sep ht (HS.out) rfl; have n0_ := Aside0.mk (Turned.below ht); clear HB HS ht; have HB := n0_; have HS := Aside0.mk hs_; clear n0_ hs_; (try clear hf2 hc2); have hf2 := Sep.free HS.out 2; have hc2 := Sep.c32 HS.out)
      | (go_at_call 102; (have n0_ := Aside0.mk (below_set (j := 2) (v := .bool true) HB.out HS.out.ge); have n1_ := Aside0.mk (HS.out.s32 (.bool true)); clear HB HS; have HB := n0_; have HS := n1_; clear n0_ n1_; (with_reducible refine (open_n 0 0 _ (by simp) (by decide)).mono ?_); rintro e w3 ⟨rfl, hb⟩; have n0_ := Aside0.mk (below_step (by repeat (first | exact HB.out | apply below_alloc | apply pw_below_drewN | apply below_drew1)) hb); have n1_ := Aside0.mk (Sep.below (by repeat (first | exact HS.out | apply sep_alloc | apply sep_drewN | apply sep_drew)) hb); clear HB HS; have HB := n0_; have HS := n1_; clear n0_ n1_ hb)))
     (try simp only [Exit.jump]); go_ret
     exact ⟨openN 0, p + 3 + 14, true, rfl, Turned.of_sep (mk := fun _ => tkR g (.slice A b.length c) (p + 3 + 14) true) (F' := fun _ => True) HS.out HB0.out HB.out, by omega, (fun _ => rfl), (fun n p' h h2 => by rw [HN.out] at h; cases h), (fun _ => rfl)⟩
   ·obtain ⟨r1, r2, hA1, hne⟩ : ∃ r1 r2, atR b ((p + 3 : Nat) : Int) ((1 : Nat) : Int) = (r1, r2) ∧ (r1 == 1) = false ∧ (p + 4 ≤ 8 * b.length → r2 = 0) := by
     by_cases hin : p + 3 + 1 ≤ 8 * b.length
     ·refine ⟨_, _, atR_ok (by omega) hin, ?_, fun _ => rfl⟩
      have := bt_lt b (p + 3)
      rw [val_one, beq_eq_false_iff_ne]
      have h1 : ¬ bt b (p + 3) = 1 := fun h => hn ⟨by omega, hin, h⟩
      omega
     ·exact ⟨_, _, atR_bad (by omega) (by omega), rfl, fun h => absurd h (by omega)⟩
    obtain ⟨hne, hr2⟩ := hne
    have HA1 := Aside0.mk hA1
    obtain ⟨bad1, hbad1⟩ : ∃ x, x = (bad || (r2 != 0)) := ⟨_, rfl⟩
    have HB1 := Aside0.mk hbad1
    by_cases hq : p + 4 + 32 ≤ 8 * b.length
    ·have HA2 := Aside0.mk (show atR b ((p + 4 : Nat) : Int) ((32 : Nat) : Int) = ((val b (p + 4) 32 : Int), 0) from atR_ok (by omega) hq)
     have HD := Aside0.mk (dec_X (b := b) (p := p) (k := 3) HK.out hq)
     have hdd := HD.out
     rw [show wid 3 = 32 from rfl, show headW 3 = 4 from rfl] at hdd
     have hu0 := val_lt b (p + 4) 32
     obtain ⟨u, hu⟩ : ∃ u, u = val b (p + 4) 32 := ⟨_, rfl⟩
     rw [← hu] at HA2 hu0 hdd
     have hb1 : bad1 = bad := by rw [hbad1, hr2 (by omega)]; simp
     have HBB := Aside0.mk hb1
     have HU := Aside0.mk (show u < 2 ^ 64 from Nat.lt_of_lt_of_le hu0 (by decide))
     have HD2 := Aside0.mk hdd
     by_cases hcn : u < 16384
     ·have hz : ((u : Int) / 16384 == 0) = true := by rw [beq_iff_eq]; omega
      have hz2 : (u : Int) / 16384 = 0 := by omega
      have HN := Aside0.mk (show decS b p = none from decS_N HD2.out ⟨by omega, hcn⟩)
      clear hq hu hu0 hb1 hbad1 hdd HD hk hn hj hj4 hle hcn hA1 hr2
      go_wp2_with (first
       | (go_at_call 97; ((with_reducible refine (steps_widths.calls 0 7 14 32 64 _ rfl).mono ?_); rintro e w2 ⟨rfl, hb⟩; have n0_ := Aside0.mk (below_step (by repeat (first | exact HB.out | apply below_alloc | apply pw_below_drewN | apply below_drew1)) hb); have n1_ := Aside0.mk (Sep.below (by repeat (first | exact HS.out | apply sep_alloc | apply sep_drewN | apply sep_drew)) hb); clear HB HS; have HB := n0_; have HS := n1_; clear n0_ n1_ hb; (try clear hf2 hc2); have hf2 := Sep.free HS.out 2; have hc2 := Sep.c32 HS.out))
       | ((with_reducible refine gate_dst (N := 10) rfl ?_); (try (refine gate_guard (by rfl) ?_; dsimp only)); refine goesL_ (some 10) rfl rfl Try.func101 (by kernel_rfl) rfl #[.pointer (some ⟨g, 0, none⟩), .int .i64 1] rfl (by (try simp only [List.map_toArray, List.map_cons, List.map_nil]); first | done | rfl) ?_; (with_reducible refine (tktake_n g A c b (p + 3) 1 bad r1 r2 bad1 1 (p + 4) w0 _ rfl (by omega) HB.out HS.out.own HR.out HC.out HBY.out HL.out (by omega) (by have := HP.out; omega) HA1.out HB1.out).mono ?_); rintro e w8 ⟨rfl, ht⟩; refine ⟨_, rfl, ?_⟩; obtain ⟨F_, hs_⟩ := Turned.sep ht (HS.out) rfl; have n0_ := Aside0.mk (Turned.below ht); clear HB HS ht; have HB := n0_; have HS := Aside0.mk hs_; clear n0_ hs_)
       | ((with_reducible refine gate_dst (N := 20) rfl ?_); (try (refine gate_guard (by rfl) ?_; dsimp only)); refine goesL_ (some 20) rfl rfl Try.func101 (by kernel_rfl) rfl #[.pointer (some ⟨g, 0, none⟩), .int .i64 32] rfl (by (try simp only [List.map_toArray, List.map_cons, List.map_nil]); first | done | rfl) ?_; (with_reducible refine (tktake_n g A c b (p + 4) 32 bad1 (u : Int) 0 bad1 32 (p + 4 + 32) w0 _ rfl (by omega) HB.out HS.out.own HR.out HC.out HBY.out HL.out (by omega) (by have := HP.out; omega) HA2.out (by simp)).mono ?_); rintro e w9 ⟨rfl, ht⟩; refine ⟨_, rfl, ?_⟩; obtain ⟨F_, hs_⟩ := Turned.sep ht (HS.out) rfl; have n0_ := Aside0.mk (Turned.below ht); clear HB HS ht; have HB := n0_; have HS := Aside0.mk hs_; clear n0_ hs_; (try clear hf2 hc2); have hf2 := Sep.free HS.out 2; have hc2 := Sep.c32 HS.out)
       | (go_at_call 102; (have n0_ := Aside0.mk (below_set (j := 2) (v := .bool true) HB.out HS.out.ge); have n1_ := Aside0.mk (HS.out.s32 (.bool true)); clear HB HS; have HB := n0_; have HS := n1_; clear n0_ n1_; (with_reducible refine (open_n (u : Int) u _ (by simp) HU.out).mono ?_); rintro e w3 ⟨rfl, hb⟩; have n0_ := Aside0.mk (below_step (by repeat (first | exact HB.out | apply below_alloc | apply pw_below_drewN | apply below_drew1)) hb); have n1_ := Aside0.mk (Sep.below (by repeat (first | exact HS.out | apply sep_alloc | apply sep_drewN | apply sep_drew)) hb); clear HB HS; have HB := n0_; have HS := n1_; clear n0_ n1_ hb)))
      (try simp only [Exit.jump]); go_ret
      exact ⟨openN u, p + 4 + 32, true, rfl, Turned.of_sep (mk := fun _ => tkR g (.slice A b.length c) (p + 4 + 32) true) (F' := fun _ => True) HS.out HB0.out HB.out, by omega, (fun _ => rfl), (fun n p' h h2 => by rw [HN.out] at h; cases h), (fun _ => rfl)⟩
     ·have hz : ((u : Int) / 16384 == 0) = false := by rw [beq_eq_false_iff_ne]; omega
      have hz2 : ((u : Int) / 16384 = 0) = False := eq_false (by omega)
      have HN := Aside0.mk (show decS b p = some (openN u, p + 4 + 32) from decS_X HD2.out (by rintro ⟨_, h⟩; exact hcn h))
      clear hq hu hu0 hb1 hbad1 hdd HD hk hn hj hj4 hle hcn hA1 hr2
      go_wp2_with (first
       | (go_at_call 97; ((with_reducible refine (steps_widths.calls 0 7 14 32 64 _ rfl).mono ?_); rintro e w2 ⟨rfl, hb⟩; have n0_ := Aside0.mk (below_step (by repeat (first | exact HB.out | apply below_alloc | apply pw_below_drewN | apply below_drew1)) hb); have n1_ := Aside0.mk (Sep.below (by repeat (first | exact HS.out | apply sep_alloc | apply sep_drewN | apply sep_drew)) hb); clear HB HS; have HB := n0_; have HS := n1_; clear n0_ n1_ hb; (try clear hf2 hc2); have hf2 := Sep.free HS.out 2; have hc2 := Sep.c32 HS.out))
       | ((with_reducible refine gate_dst (N := 10) rfl ?_); (try (refine gate_guard (by rfl) ?_; dsimp only)); refine goesL_ (some 10) rfl rfl Try.func101 (by kernel_rfl) rfl #[.pointer (some ⟨g, 0, none⟩), .int .i64 1] rfl (by (try simp only [List.map_toArray, List.map_cons, List.map_nil]); first | done | rfl) ?_; (with_reducible refine (tktake_n g A c b (p + 3) 1 bad r1 r2 bad1 1 (p + 4) w0 _ rfl (by omega) HB.out HS.out.own HR.out HC.out HBY.out HL.out (by omega) (by have := HP.out; omega) HA1.out HB1.out).mono ?_); rintro e w8 ⟨rfl, ht⟩; refine ⟨_, rfl, ?_⟩; obtain ⟨F_, hs_⟩ := Turned.sep ht (HS.out) rfl; have n0_ := Aside0.mk (Turned.below ht); clear HB HS ht; have HB := n0_; have HS := Aside0.mk hs_; clear n0_ hs_)
       | ((with_reducible refine gate_dst (N := 20) rfl ?_); (try (refine gate_guard (by rfl) ?_; dsimp only)); refine goesL_ (some 20) rfl rfl Try.func101 (by kernel_rfl) rfl #[.pointer (some ⟨g, 0, none⟩), .int .i64 32] rfl (by (try simp only [List.map_toArray, List.map_cons, List.map_nil]); first | done | rfl) ?_; (with_reducible refine (tktake_n g A c b (p + 4) 32 bad1 (u : Int) 0 bad1 32 (p + 4 + 32) w0 _ rfl (by omega) HB.out HS.out.own HR.out HC.out HBY.out HL.out (by omega) (by have := HP.out; omega) HA2.out (by simp)).mono ?_); rintro e w9 ⟨rfl, ht⟩; refine ⟨_, rfl, ?_⟩; obtain ⟨F_, hs_⟩ := Turned.sep ht (HS.out) rfl; have n0_ := Aside0.mk (Turned.below ht); clear HB HS ht; have HB := n0_; have HS := Aside0.mk hs_; clear n0_ hs_; (try clear hf2 hc2); have hf2 := Sep.free HS.out 2; have hc2 := Sep.c32 HS.out)
       | (go_at_call 102; ((with_reducible refine (open_n (u : Int) u _ (by simp) HU.out).mono ?_); rintro e w3 ⟨rfl, hb⟩; have n0_ := Aside0.mk (below_step (by repeat (first | exact HB.out | apply below_alloc | apply pw_below_drewN | apply below_drew1)) hb); have n1_ := Aside0.mk (Sep.below (by repeat (first | exact HS.out | apply sep_alloc | apply sep_drewN | apply sep_drew)) hb); clear HB HS; have HB := n0_; have HS := n1_; clear n0_ n1_ hb)))
      (try simp only [Exit.jump]); go_ret
      exact ⟨openN u, p + 4 + 32, bad1, rfl, Turned.of_sep (mk := fun _ => tkR g (.slice A b.length c) (p + 4 + 32) bad1) (F' := fun _ => True) HS.out HB0.out HB.out, by omega, (fun h => by rw [HBB.out, h]), (fun n p' h h2 => by rw [HN.out] at h; injection h with h; injection h with h3 h4; exact ⟨by rw [HBB.out, h2], h3, h4⟩), (fun h => by rw [HN.out] at h; cases h)⟩
    ·have HA2 := Aside0.mk (show atR b ((p + 4 : Nat) : Int) ((32 : Nat) : Int) = (0, 2) from atR_bad (by omega) (by omega))
     have HN := Aside0.mk (show decS b p = none from dec_Y (k := 3) HK.out hq)
     clear hq hbad1 hk hn hj hj4 hle hA1 hr2
     go_wp2_with (first
      | (go_at_call 97; ((with_reducible refine (steps_widths.calls 0 7 14 32 64 _ rfl).mono ?_); rintro e w2 ⟨rfl, hb⟩; have n0_ := Aside0.mk (below_step (by repeat (first | exact HB.out | apply below_alloc | apply pw_below_drewN | apply below_drew1)) hb); have n1_ := Aside0.mk (Sep.below (by repeat (first | exact HS.out | apply sep_alloc | apply sep_drewN | apply sep_drew)) hb); clear HB HS; have HB := n0_; have HS := n1_; clear n0_ n1_ hb; (try clear hf2 hc2); have hf2 := Sep.free HS.out 2; have hc2 := Sep.c32 HS.out))
      | ((with_reducible refine gate_dst (N := 10) rfl ?_); (try (refine gate_guard (by rfl) ?_; dsimp only)); refine goesL_ (some 10) rfl rfl Try.func101 (by kernel_rfl) rfl #[.pointer (some ⟨g, 0, none⟩), .int .i64 1] rfl (by (try simp only [List.map_toArray, List.map_cons, List.map_nil]); first | done | rfl) ?_; (with_reducible refine (tktake_n g A c b (p + 3) 1 bad r1 r2 bad1 1 (p + 4) w0 _ rfl (by omega) HB.out HS.out.own HR.out HC.out HBY.out HL.out (by omega) (by have := HP.out; omega) HA1.out HB1.out).mono ?_); rintro e w8 ⟨rfl, ht⟩; refine ⟨_, rfl, ?_⟩; obtain ⟨F_, hs_⟩ := Turned.sep ht (HS.out) rfl; have n0_ := Aside0.mk (Turned.below ht); clear HB HS ht; have HB := n0_; have HS := Aside0.mk hs_; clear n0_ hs_)
      | ((with_reducible refine gate_dst (N := 20) rfl ?_); (try (refine gate_guard (by rfl) ?_; dsimp only)); refine goesL_ (some 20) rfl rfl Try.func101 (by kernel_rfl) rfl #[.pointer (some ⟨g, 0, none⟩), .int .i64 32] rfl (by (try simp only [List.map_toArray, List.map_cons, List.map_nil]); first | done | rfl) ?_; (with_reducible refine (tktake_n g A c b (p + 4) 32 bad1 0 2 true 32 (p + 4 + 32) w0 _ rfl (by omega) HB.out HS.out.own HR.out HC.out HBY.out HL.out (by omega) (by have := HP.out; omega) HA2.out (by simp)).mono ?_); rintro e w9 ⟨rfl, ht⟩; refine ⟨_, rfl, ?_⟩; obtain ⟨F_, hs_⟩ := Turned.sep ht (HS.out) rfl; have n0_ := Aside0.mk (Turned.below ht); clear HB HS ht; have HB := n0_; have HS := Aside0.mk hs_; clear n0_ hs_; (try clear hf2 hc2); have hf2 := Sep.free HS.out 2; have hc2 := Sep.c32 HS.out)
      | (go_at_call 102; (have n0_ := Aside0.mk (below_set (j := 2) (v := .bool true) HB.out HS.out.ge); have n1_ := Aside0.mk (HS.out.s32 (.bool true)); clear HB HS; have HB := n0_; have HS := n1_; clear n0_ n1_; (with_reducible refine (open_n 0 0 _ (by simp) (by decide)).mono ?_); rintro e w3 ⟨rfl, hb⟩; have n0_ := Aside0.mk (below_step (by repeat (first | exact HB.out | apply below_alloc | apply pw_below_drewN | apply below_drew1)) hb); have n1_ := Aside0.mk (Sep.below (by repeat (first | exact HS.out | apply sep_alloc | apply sep_drewN | apply sep_drew)) hb); clear HB HS; have HB := n0_; have HS := n1_; clear n0_ n1_ hb)))
     (try simp only [Exit.jump]); go_ret
     exact ⟨openN 0, p + 4 + 32, true, rfl, Turned.of_sep (mk := fun _ => tkR g (.slice A b.length c) (p + 4 + 32) true) (F' := fun _ => True) HS.out HB0.out HB.out, by omega, (fun _ => rfl), (fun n p' h h2 => by rw [HN.out] at h; cases h), (fun _ => rfl)⟩
   ·obtain ⟨bad1, hbad1⟩ : ∃ x, x = bad := ⟨_, rfl⟩
    have HB1 := Aside0.mk hbad1
    have hss := HS.out
    rw [← hbad1] at hss
    clear HS
    have HS := Aside0.mk hss
    clear hss
    by_cases hq : p + 4 + 64 ≤ 8 * b.length
    ·have HA2 := Aside0.mk (show atR b ((p + 4 : Nat) : Int) ((64 : Nat) : Int) = ((val b (p + 4) 64 : Int), 0) from atR_ok (by omega) hq)
     have HD := Aside0.mk (dec_X (b := b) (p := p) (k := 4) HK.out hq)
     have hdd := HD.out
     rw [show wid 4 = 64 from rfl, show headW 4 = 4 from rfl] at hdd
     have hu0 := val_lt b (p + 4) 64
     obtain ⟨u, hu⟩ : ∃ u, u = val b (p + 4) 64 := ⟨_, rfl⟩
     rw [← hu] at HA2 hu0 hdd
     have hb1 : bad1 = bad := hbad1
     have HBB := Aside0.mk hb1
     have HU := Aside0.mk (show u < 2 ^ 64 from Nat.lt_of_lt_of_le hu0 (by decide))
     have HD2 := Aside0.mk hdd
     by_cases hcn : u < 4294967296
     ·have hz : ((u : Int) / 4294967296 == 0) = true := by rw [beq_iff_eq]; omega
      have hz2 : (u : Int) / 4294967296 = 0 := by omega
      have HN := Aside0.mk (show decS b p = none from decS_N HD2.out ⟨by omega, hcn⟩)
      clear hq hu hu0 hb1 hbad1 hdd HD hk hn hj hj4 hle hcn
      go_wp2_with (first
       | (go_at_call 97; ((with_reducible refine (steps_widths.calls 0 7 14 32 64 _ rfl).mono ?_); rintro e w2 ⟨rfl, hb⟩; have n0_ := Aside0.mk (below_step (by repeat (first | exact HB.out | apply below_alloc | apply pw_below_drewN | apply below_drew1)) hb); have n1_ := Aside0.mk (Sep.below (by repeat (first | exact HS.out | apply sep_alloc | apply sep_drewN | apply sep_drew)) hb); clear HB HS; have HB := n0_; have HS := n1_; clear n0_ n1_ hb; (try clear hf2 hc2); have hf2 := Sep.free HS.out 2; have hc2 := Sep.c32 HS.out))
       | ((with_reducible refine gate_dst (N := 20) rfl ?_); (try (refine gate_guard (by rfl) ?_; dsimp only)); refine goesL_ (some 20) rfl rfl Try.func101 (by kernel_rfl) rfl #[.pointer (some ⟨g, 0, none⟩), .int .i64 64] rfl (by (try simp only [List.map_toArray, List.map_cons, List.map_nil]); first | done | rfl) ?_; (with_reducible refine (tktake_n g A c b (p + 4) 64 bad1 (u : Int) 0 bad1 64 (p + 4 + 64) w0 _ rfl (by omega) HB.out HS.out.own HR.out HC.out HBY.out HL.out (by omega) (by have := HP.out; omega) HA2.out (by simp)).mono ?_); rintro e w9 ⟨rfl, ht⟩; refine ⟨_, rfl, ?_⟩; obtain ⟨F_, hs_⟩ := Turned.sep ht (HS.out) rfl; have n0_ := Aside0.mk (Turned.below ht); clear HB HS ht; have HB := n0_; have HS := Aside0.mk hs_; clear n0_ hs_; (try clear hf2 hc2); have hf2 := Sep.free HS.out 2; have hc2 := Sep.c32 HS.out)
       | (go_at_call 102; (have n0_ := Aside0.mk (below_set (j := 2) (v := .bool true) HB.out HS.out.ge); have n1_ := Aside0.mk (HS.out.s32 (.bool true)); clear HB HS; have HB := n0_; have HS := n1_; clear n0_ n1_; (with_reducible refine (open_n (u : Int) u _ (by simp) HU.out).mono ?_); rintro e w3 ⟨rfl, hb⟩; have n0_ := Aside0.mk (below_step (by repeat (first | exact HB.out | apply below_alloc | apply pw_below_drewN | apply below_drew1)) hb); have n1_ := Aside0.mk (Sep.below (by repeat (first | exact HS.out | apply sep_alloc | apply sep_drewN | apply sep_drew)) hb); clear HB HS; have HB := n0_; have HS := n1_; clear n0_ n1_ hb)))
      (try simp only [Exit.jump]); go_ret
      exact ⟨openN u, p + 4 + 64, true, rfl, Turned.of_sep (mk := fun _ => tkR g (.slice A b.length c) (p + 4 + 64) true) (F' := fun _ => True) HS.out HB0.out HB.out, by omega, (fun _ => rfl), (fun n p' h h2 => by rw [HN.out] at h; cases h), (fun _ => rfl)⟩
     ·have hz : ((u : Int) / 4294967296 == 0) = false := by rw [beq_eq_false_iff_ne]; omega
      have hz2 : ((u : Int) / 4294967296 = 0) = False := eq_false (by omega)
      have HN := Aside0.mk (show decS b p = some (openN u, p + 4 + 64) from decS_X HD2.out (by rintro ⟨_, h⟩; exact hcn h))
      clear hq hu hu0 hb1 hbad1 hdd HD hk hn hj hj4 hle hcn
      go_wp2_with (first
       | (go_at_call 97; ((with_reducible refine (steps_widths.calls 0 7 14 32 64 _ rfl).mono ?_); rintro e w2 ⟨rfl, hb⟩; have n0_ := Aside0.mk (below_step (by repeat (first | exact HB.out | apply below_alloc | apply pw_below_drewN | apply below_drew1)) hb); have n1_ := Aside0.mk (Sep.below (by repeat (first | exact HS.out | apply sep_alloc | apply sep_drewN | apply sep_drew)) hb); clear HB HS; have HB := n0_; have HS := n1_; clear n0_ n1_ hb; (try clear hf2 hc2); have hf2 := Sep.free HS.out 2; have hc2 := Sep.c32 HS.out))
       | ((with_reducible refine gate_dst (N := 20) rfl ?_); (try (refine gate_guard (by rfl) ?_; dsimp only)); refine goesL_ (some 20) rfl rfl Try.func101 (by kernel_rfl) rfl #[.pointer (some ⟨g, 0, none⟩), .int .i64 64] rfl (by (try simp only [List.map_toArray, List.map_cons, List.map_nil]); first | done | rfl) ?_; (with_reducible refine (tktake_n g A c b (p + 4) 64 bad1 (u : Int) 0 bad1 64 (p + 4 + 64) w0 _ rfl (by omega) HB.out HS.out.own HR.out HC.out HBY.out HL.out (by omega) (by have := HP.out; omega) HA2.out (by simp)).mono ?_); rintro e w9 ⟨rfl, ht⟩; refine ⟨_, rfl, ?_⟩; obtain ⟨F_, hs_⟩ := Turned.sep ht (HS.out) rfl; have n0_ := Aside0.mk (Turned.below ht); clear HB HS ht; have HB := n0_; have HS := Aside0.mk hs_; clear n0_ hs_; (try clear hf2 hc2); have hf2 := Sep.free HS.out 2; have hc2 := Sep.c32 HS.out)
       | (go_at_call 102; ((with_reducible refine (open_n (u : Int) u _ (by simp) HU.out).mono ?_); rintro e w3 ⟨rfl, hb⟩; have n0_ := Aside0.mk (below_step (by repeat (first | exact HB.out | apply below_alloc | apply pw_below_drewN | apply below_drew1)) hb); have n1_ := Aside0.mk (Sep.below (by repeat (first | exact HS.out | apply sep_alloc | apply sep_drewN | apply sep_drew)) hb); clear HB HS; have HB := n0_; have HS := n1_; clear n0_ n1_ hb)))
      (try simp only [Exit.jump]); go_ret
      exact ⟨openN u, p + 4 + 64, bad1, rfl, Turned.of_sep (mk := fun _ => tkR g (.slice A b.length c) (p + 4 + 64) bad1) (F' := fun _ => True) HS.out HB0.out HB.out, by omega, (fun h => by rw [HBB.out, h]), (fun n p' h h2 => by rw [HN.out] at h; injection h with h; injection h with h3 h4; exact ⟨by rw [HBB.out, h2], h3, h4⟩), (fun h => by rw [HN.out] at h; cases h)⟩
    ·have HA2 := Aside0.mk (show atR b ((p + 4 : Nat) : Int) ((64 : Nat) : Int) = (0, 2) from atR_bad (by omega) (by omega))
     have HN := Aside0.mk (show decS b p = none from dec_Y (k := 4) HK.out hq)
     clear hq hbad1 hk hn hj hj4 hle
     go_wp2_with (first
      | (go_at_call 97; ((with_reducible refine (steps_widths.calls 0 7 14 32 64 _ rfl).mono ?_); rintro e w2 ⟨rfl, hb⟩; have n0_ := Aside0.mk (below_step (by repeat (first | exact HB.out | apply below_alloc | apply pw_below_drewN | apply below_drew1)) hb); have n1_ := Aside0.mk (Sep.below (by repeat (first | exact HS.out | apply sep_alloc | apply sep_drewN | apply sep_drew)) hb); clear HB HS; have HB := n0_; have HS := n1_; clear n0_ n1_ hb; (try clear hf2 hc2); have hf2 := Sep.free HS.out 2; have hc2 := Sep.c32 HS.out))
      | ((with_reducible refine gate_dst (N := 20) rfl ?_); (try (refine gate_guard (by rfl) ?_; dsimp only)); refine goesL_ (some 20) rfl rfl Try.func101 (by kernel_rfl) rfl #[.pointer (some ⟨g, 0, none⟩), .int .i64 64] rfl (by (try simp only [List.map_toArray, List.map_cons, List.map_nil]); first | done | rfl) ?_; (with_reducible refine (tktake_n g A c b (p + 4) 64 bad1 0 2 true 64 (p + 4 + 64) w0 _ rfl (by omega) HB.out HS.out.own HR.out HC.out HBY.out HL.out (by omega) (by have := HP.out; omega) HA2.out (by simp)).mono ?_); rintro e w9 ⟨rfl, ht⟩; refine ⟨_, rfl, ?_⟩; obtain ⟨F_, hs_⟩ := Turned.sep ht (HS.out) rfl; have n0_ := Aside0.mk (Turned.below ht); clear HB HS ht; have HB := n0_; have HS := Aside0.mk hs_; clear n0_ hs_; (try clear hf2 hc2); have hf2 := Sep.free HS.out 2; have hc2 := Sep.c32 HS.out)
      | (go_at_call 102; (have n0_ := Aside0.mk (below_set (j := 2) (v := .bool true) HB.out HS.out.ge); have n1_ := Aside0.mk (HS.out.s32 (.bool true)); clear HB HS; have HB := n0_; have HS := n1_; clear n0_ n1_; (with_reducible refine (open_n 0 0 _ (by simp) (by decide)).mono ?_); rintro e w3 ⟨rfl, hb⟩; have n0_ := Aside0.mk (below_step (by repeat (first | exact HB.out | apply below_alloc | apply pw_below_drewN | apply below_drew1)) hb); have n1_ := Aside0.mk (Sep.below (by repeat (first | exact HS.out | apply sep_alloc | apply sep_drewN | apply sep_drew)) hb); clear HB HS; have HB := n0_; have HS := n1_; clear n0_ n1_ hb)))
     (try simp only [Exit.jump]); go_ret
     exact ⟨openN 0, p + 4 + 64, true, rfl, Turned.of_sep (mk := fun _ => tkR g (.slice A b.length c) (p + 4 + 64) true) (F' := fun _ => True) HS.out HB0.out HB.out, by omega, (fun _ => rfl), (fun n p' h h2 => by rw [HN.out] at h; cases h), (fun _ => rfl)⟩
 case first =>
  intro F hL
  go_wp2
  go_step3
  go_step
  go_step
  refine hL 4 _ _ ?_
  (repeat apply Exists.intro)
  refine ⟨?_, rfl⟩
  exact ⟨0, rfl, ⟨by omega, Nat.zero_le _⟩, HS, HB⟩
end Go.Proofs.Ythkpnnbjcendcaa.Sc
namespace Go.Proofs.Ythkpnnbjcendcaa.Sc
abbrev rdR (g : Nat) (v : Value) (p : Nat) (bad : Bool) : Res := box g #[v, .int .i64 (p : Int), .bool bad] 107
theorem refat_calls_eq (A : Option Addr) (c : Nat) (b : List Int) (p wd r1 r2 : Int) (w : World) (hr : Kd.C (Kd.int .u8) w A b.length b) (hc : b.length ≤ c) (hb : Byt b) (hl : b.length < 1000000) (hw : -9223372036854775808 ≤ wd ∧ wd ≤ 9223372036854775807) (h : atR b p wd = (r1, r2)) :
  Calls Try.prog 109 #[.slice A b.length c, .int .i64 p, .int .i64 wd] w fun e w' => e = .returned (.tuple #[.int .u64 r1, .int .i64 r2]) ∧ Below w.heap.size w w' := by
 obtain ⟨K, hev⟩ := ref_at_ev hb hl p wd hw
 rw [h] at hev
 refine (marigraphref02_At.calls K A c b p wd _ _ w hr hc (hev K (Nat.le_refl _))).mono ?_
 rintro e w' ⟨rfl, hd⟩
 exact ⟨rfl, hd.below⟩
set_option maxHeartbeats 8000000 in
set_option maxRecDepth 100000 in
theorem rdtake_calls (g : Nat) (A : Option Addr) (c : Nat) (b : List Int) (p wd : Nat) (bad : Bool) (r1 r2 x : Int) (q : Nat) (bad' : Bool) (wi : Int) (w0 w : World) (hwi : wi = (wd : Int)) (hB : Below w0.heap.size w0 w) (hO : Own w0.heap.size w (rdR g (.slice A b.length c) p bad)) (hr : Kd.C (Kd.int .u8) w0 A b.length b) (hc : b.length ≤ c) (hby : Byt b) (hl : b.length < 1000000)
  (hw : wd ≤ 64) (hp : p < 1000000000) (ha : atR b (p : Int) (wd : Int) = (r1, r2)) (hx : r2 = 0 ∧ x = r1 ∧ q = p + wd ∧ bad' = bad ∨ r2 ≠ 0 ∧ x = 0 ∧ q = p ∧ bad' = true) :
  Calls Try.prog 104 #[.pointer (some ⟨g, 0, none⟩), .int .i64 wi] w fun e w' => e = .returned (.int .u64 x) ∧ Turned w0 w w' (fun k => k = g) (fun _ => rdR g (.slice A b.length c) q bad') := by
 subst hwi
 have HB0 := Aside0.mk hB
 have HB := Aside0.mk hB
 have HS := Aside0.mk (Sep.start hO)
 have HR := Aside0.mk hr
 have HC := Aside0.mk hc
 have HBY := Aside0.mk hby
 have HL := Aside0.mk hl
 have HA := Aside0.mk ha
 have HW := Aside0.mk hw
 have hqw : r2 = 0 → q = p + wd → wrap64 ((p : Int) + (wd : Int)) = (q : Int) := fun _ h => by rw [w64 (by omega) (by omega)]; omega
 clear hB hO hr hc hby hl hw hp ha
 go_enter Try.func104, Try.ntmps104
 go_wp2
 refine start_ (n := 15) (S := fun w' => w'.cell? ⟨g, 0, none⟩ = some (.slice A b.length c) ∧ w'.cell? ⟨g, 1, none⟩ = some (.int .i64 (p : Int))) (ds := []) #[false, false, false, false, false, false, false, false, false, false, false, false, false, false, false] (by kernel_rfl) rfl rfl ⟨Sep.c30 (sep_drew HS.out), Sep.c31 (sep_drew HS.out)⟩ (fun hHeld => ?_)
 have n0_ := Aside0.mk (below_drew HB.out)
 have n1_ := Aside0.mk (sep_drew HS.out)
 clear HB HS
 have HB := n0_
 have HS := n1_
 clear n0_ n1_
 generalize (World.drew w) = wd_ at HB HS hHeld ⊢
 refine pure_ (i := 0) (N := some 8) (v := ?_) (a' := ?_) #[true, false, false, false, false, false, false, false, false, false, false, false, false, false, false] rfl rfl (by kernel_rfl) (fun _ _ _ h => h) (Or.inl ⟨by rfl, ?_⟩) ?_ ?_
 rotate_left
 ·intro w'
  go_simp
  with_reducible rfl
 rotate_left
 ·simp only [Act.put, sA_, sB_, sC_, i64_w, i32_w]
  rfl
 refine pure_ (i := 1) (N := some 9) (v := ?_) (a' := ?_) #[true, true, false, false, false, false, false, false, false, false, false, false, false, false, false] rfl rfl (by kernel_rfl) (fun _ _ _ h => h) (Or.inl ⟨by rfl, ?_⟩) ?_ ?_
 rotate_left
 ·intro w'
  go_simp
  with_reducible rfl
 rotate_left
 ·simp only [Act.put, sA_, sB_, sC_, i64_w, i32_w]
  rfl
 refine pure_ (i := 2) (N := some 10) (v := ?_) (a' := ?_) #[true, true, true, false, false, false, false, false, false, false, false, false, false, false, false] rfl rfl (by kernel_rfl) (fun _ _ _ h => h) (Or.inl ⟨by rfl, ?_⟩) ?_ ?_
 rotate_left
 ·intro w'
  go_simp
  with_reducible rfl
 rotate_left
 ·simp only [Act.put, sA_, sB_, sC_, i64_w, i32_w]
  rfl
 refine pure_ (i := 4) (N := some 12) (v := ?_) (a' := ?_) #[true, true, true, false, true, false, false, false, false, false, false, false, false, false, false] rfl rfl (by kernel_rfl) (fun _ _ _ h => h) (Or.inl ⟨by rfl, ?_⟩) ?_ ?_
 rotate_left
 ·intro w'
  go_simp
  with_reducible rfl
 rotate_left
 ·simp only [Act.put, sA_, sB_, sC_, i64_w, i32_w]
  rfl
 refine pure_ (i := 5) (N := some 13) (v := ?_) (a' := ?_) #[true, true, true, false, true, true, false, false, false, false, false, false, false, false, false] rfl rfl (by kernel_rfl) (fun _ _ _ h => h) (Or.inl ⟨by rfl, ?_⟩) ?_ ?_
 rotate_left
 ·intro w'
  go_simp
  with_reducible rfl
 rotate_left
 ·simp only [Act.put, sA_, sB_, sC_, i64_w, i32_w]
  rfl
 refine pure_ (i := 6) (N := some 14) (v := ?_) (a' := ?_) #[true, true, true, false, true, true, true, false, false, false, false, false, false, false, false] rfl rfl (by kernel_rfl) (fun _ _ _ h => h) (Or.inl ⟨by rfl, ?_⟩) ?_ ?_
 rotate_left
 ·intro w'
  go_simp
  with_reducible rfl
 rotate_left
 ·simp only [Act.put, sA_, sB_, sC_, i64_w, i32_w]
  rfl
 refine pure_ (i := 8) (N := some 16) (v := ?_) (a' := ?_) #[true, true, true, false, true, true, true, false, true, false, false, false, false, false, false] rfl rfl (by kernel_rfl) (fun _ _ _ h => h) (Or.inl ⟨by rfl, ?_⟩) ?_ ?_
 rotate_left
 ·intro w'
  go_simp
  with_reducible rfl
 rotate_left
 ·simp only [Act.put, sA_, sB_, sC_, i64_w, i32_w]
  rfl
 refine take_ (i := 3) (N := some 11) (v := ?_) (a' := ?_) #[true, true, true, true, true, true, true, false, true, false, false, false, false, false, false] rfl rfl (by kernel_rfl) (fun _ _ _ h => h) (Or.inl ⟨by rfl, ?_⟩) hHeld ?_ ?_
 rotate_left
 ·rintro w' ⟨s0, s1⟩
  go_simp
  with_reducible rfl
 rotate_left
 ·simp only [Act.put, sA_, sB_, sC_, i64_w, i32_w]
  rfl
 refine take_ (i := 7) (N := some 15) (v := ?_) (a' := ?_) #[true, true, true, true, true, true, true, true, true, false, false, false, false, false, false] rfl rfl (by kernel_rfl) (fun _ _ _ h => h) (Or.inl ⟨by rfl, ?_⟩) hHeld ?_ ?_
 rotate_left
 ·rintro w' ⟨s0, s1⟩
  go_simp
  with_reducible rfl
 rotate_left
 ·simp only [Act.put, sA_, sB_, sC_, i64_w, i32_w]
  rfl
 refine one_ (i := 9) (N := some 17) #[true, true, true, true, true, true, true, true, true, true, false, false, false, false, false] rfl rfl (by kernel_rfl) (by decide) (fun K hK => ?_)
 refine goes_ Try.func109 (by kernel_rfl) rfl #[.slice A b.length c, .int .i64 (p : Int), .int .i64 (wd : Int)] (by rfl) rfl rfl (by first | (simp only [List.map_toArray, List.map_cons, List.map_nil]; done) | (simp only [List.map_toArray, List.map_cons, List.map_nil]; rfl) | rfl) ?_; with_reducible refine (refat_calls_eq A c b (p : Int) (wd : Int) r1 r2 _ (Kd.C_below HR.out HB.out) HC.out HBY.out HL.out (by have := HW.out; omega) HA.out).mono ?_; rintro e w8 ⟨rfl, hb⟩; refine ⟨_, rfl, ?_⟩
 have n0_ := Aside0.mk (below_step (by repeat (first | exact HB.out | apply below_alloc | apply pw_below_drewN | apply below_drew1)) hb); have n1_ := Aside0.mk (Sep.below (by repeat (first | exact HS.out | apply sep_alloc | apply sep_drewN | apply sep_drew)) hb); clear HB HS; have HB := n0_; have HS := n1_; clear n0_ n1_ hb
 refine hK.out _ _ ⟨Sep.c30 HS.out, Sep.c31 HS.out⟩ (fun hHeld => ?_)
 clear hK K
 refine norm_ (a' := ?_) ?_ ?_
 rotate_left
 ·show Act.put _ (some 17) _ = _
  simp only [Act.put, sA_, sB_, sC_, i64_w, i32_w]
  rfl
 refine pure_ (i := 10) (N := some 7) (v := ?_) (a' := ?_) #[true, true, true, true, true, true, true, true, true, true, true, false, false, false, false] rfl rfl (by kernel_rfl) (fun _ _ _ h => h) (Or.inl ⟨by rfl, ?_⟩) ?_ ?_
 rotate_left
 ·intro w'
  go_simp
  with_reducible rfl
 rotate_left
 ·simp only [Act.put, sA_, sB_, sC_, i64_w, i32_w]
  rfl
 refine pure_ (i := 11) (N := some 18) (v := ?_) (a' := ?_) #[true, true, true, true, true, true, true, true, true, true, true, true, false, false, false] rfl rfl (by kernel_rfl) (fun _ _ _ h => h) (Or.inl ⟨by rfl, ?_⟩) ?_ ?_
 rotate_left
 ·intro w'
  go_simp
  with_reducible rfl
 rotate_left
 ·simp only [Act.put, sA_, sB_, sC_, i64_w, i32_w]
  rfl
 refine pure_ (i := 12) (N := some 19) (v := ?_) (a' := ?_) #[true, true, true, true, true, true, true, true, true, true, true, true, true, false, false] rfl rfl (by kernel_rfl) (fun _ _ _ h => h) (Or.inl ⟨by rfl, ?_⟩) ?_ ?_
 rotate_left
 ·intro w'
  go_simp
  with_reducible rfl
 rotate_left
 ·simp only [Act.put, sA_, sB_, sC_, i64_w, i32_w]
  rfl
 refine pure_ (i := 13) (N := some 5) (v := ?_) (a' := ?_) #[true, true, true, true, true, true, true, true, true, true, true, true, true, true, false] rfl rfl (by kernel_rfl) (fun _ _ _ h => h) (Or.inl ⟨by rfl, ?_⟩) ?_ ?_
 rotate_left
 ·intro w'
  go_simp
  with_reducible rfl
 rotate_left
 ·simp only [Act.put, sA_, sB_, sC_, i64_w, i32_w]
  rfl
 refine pure_ (i := 14) (N := some 6) (v := ?_) (a' := ?_) #[true, true, true, true, true, true, true, true, true, true, true, true, true, true, true] rfl rfl (by kernel_rfl) (fun _ _ _ h => h) (Or.inl ⟨by rfl, ?_⟩) ?_ ?_
 rotate_left
 ·intro w'
  go_simp
  with_reducible rfl
 rotate_left
 ·simp only [Act.put, sA_, sB_, sC_, i64_w, i32_w]
  rfl
 refine done_ (by kernel_rfl) ?_
 have hc1 := Sep.c31 HS.out
 have hc2 := Sep.c32 HS.out
 have hf1 := Sep.free HS.out 1
 have hf2 := Sep.free HS.out 2
 rcases hx with ⟨h2, rfl, h3, rfl⟩ | ⟨h2, rfl, rfl, rfl⟩
 ·have hne : (r2 != 0) = false := by rw [h2]; rfl
  have hqw := hqw h2 h3
  clear h2 h3
  go_wp2
  go_ret
  exact ⟨rfl, Turned.of_sep (mk := fun _ => rdR g (.slice A b.length c) q bad') (F' := fun _ => True) (HS.out.s31 _) HB0.out (below_set HB.out HS.out.ge)⟩
 ·have hne : (r2 != 0) = true := by rw [bne_iff_ne]; exact h2
  clear h2 hqw
  go_wp2
  go_ret
  exact ⟨rfl, Turned.of_sep (mk := fun _ => rdR g (.slice A b.length c) q true) (F' := fun _ => True) (HS.out.s32 _) HB0.out (below_set HB.out HS.out.ge)⟩
end Go.Proofs.Ythkpnnbjcendcaa.Sc
end
