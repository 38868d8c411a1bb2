/- What the law leans on, part 10: Stt. -/
import Derived.Test.YthkpnnbjcendcaaQd9
namespace SzQd10
theorem sA_ {α : Type} {l : List α} {i : Nat} {a : α} : l.toArray.setIfInBounds i a = (l.set i a).toArray := List.setIfInBounds_toArray ..
theorem sB_ {α : Type} {x : α} {l : List α} {a : α} : (x :: l).set 0 a = a :: l := rfl
theorem sC_ {α : Type} {x : α} {l : List α} {n : Nat} {a : α} : (x :: l).set (n + 1) a = x :: l.set n a := rfl
end SzQd10
open SzQd10
section
set_option linter.unusedVariables false
set_option linter.unusedSimpArgs false
open Go.RowKit Go.Proofs.Ythkpnnbjcendcaa.X Go.Proofs.Ythkpnnbjcendcaa.Pl Go.Proofs.Ythkpnnbjcendcaa.Sp Go.Proofs.Ythkpnnbjcendcaa.Pure Go.Proofs.YthkpnnbjcendcaaW.PrintWords Go.Proofs.YthkpnnbjcendcaaW.PrintLast Go.Proofs.YthkpnnbjcendcaaW.PrintMore
namespace Go.Proofs.Ythkpnnbjcendcaa.Sp
theorem Sep.p5 {base : Nat} {w : World} {a b c d e : Res} {rs : List Res} (h : Sep base w (a :: b :: c :: d :: e :: rs)) : Sep base w (e :: a :: b :: c :: d :: rs) := (h.perm ((((List.Perm.swap _ _ _).cons _).cons _).cons _)).p4
end Go.Proofs.Ythkpnnbjcendcaa.Sp
namespace Go.Proofs.Ythkpnnbjcendcaa.Pure
theorem two_marks {r : List Int} {q q1 q2 : Nat} {v1 v2 : Int} {bad1 bad2 : Bool}
  (h1 : ∀ n p', decS r q = some (n, p') → false = false → bad1 = false ∧ v1 = n ∧ q1 = p') (h1n : decS r q = none → bad1 = true)
  (hm : bad1 = true → bad2 = true) (h2 : ∀ n p', decS r q1 = some (n, p') → bad1 = false → bad2 = false ∧ v2 = n ∧ q2 = p') (h2n : decS r q1 = none → bad2 = true) :
  (bad2 = true → ∀ k, decXY decS r (k + 1) q = none) ∧ (bad2 = false → ∀ k, decXY decS r (k + 1) q = (decXY decS r k q2).map fun t => (v1 :: t.1, v2 :: t.2.1, t.2.2)) := by
 constructor
 ·intro hb k
  rw [decXY]
  rcases hd : decS r q with _ | ⟨n, p'⟩
  ·rfl
  ·obtain ⟨e1, e2, e3⟩ := h1 n p' hd rfl
   subst e2 e3
   dsimp only
   rcases hd2 : decS r q1 with _ | ⟨n2, p2⟩
   ·rfl
   ·have := (h2 n2 p2 hd2 e1).1
    rw [hb] at this
    cases this
 ·intro hb k
  rcases hd : decS r q with _ | ⟨n, p'⟩
  ·rw [hm (h1n hd)] at hb
   cases hb
  ·obtain ⟨e1, e2, e3⟩ := h1 n p' hd rfl
   subst e2 e3
   rw [decXY, hd]
   dsimp only
   rcases hd2 : decS r q1 with _ | ⟨n2, p2⟩
   ·rw [h2n hd2] at hb
    cases hb
   ·obtain ⟨e4, e5, e6⟩ := h2 n2 p2 hd2 e1
    subst e5 e6
    dsimp only
    rcases decXY decS r k q2 with _ | ⟨xs, ys, z⟩ <;> rfl
end Go.Proofs.Ythkpnnbjcendcaa.Pure
namespace Go.Proofs.Ythkpnnbjcendcaa.Sc
theorem clip_calls (A0 : Option Addr) (c0 : Nat) (l0 : List S52) (w : World) (hc0 : l0.length ≤ c0) :
  Calls Try.prog 78 #[.slice A0 l0.length c0] w fun e w' => e = .returned (.slice A0 l0.length l0.length) ∧ Below w.heap.size w w' := by
 have HB := Aside0.mk (Below.refl w.heap.size w)
 obtain ⟨n, hn⟩ : ∃ n, n = l0.length := ⟨_, rfl⟩
 rw [← hn] at hc0 ⊢
 obtain ⟨i05, hi05, _, hsz5, _⟩ := info_parts info52
 have hcut : ∀ W : World, (Instr.slice 44 (.slice A0 n c0) none (some (.int .i64 (n : Int))) (some (.int .i64 (n : Int)))).run Try.prog W = .ok (.slice A0 n n) W := by
  intro W
  have hel : Try.prog.elem 44 = 52 := by simp [Program.elem, Try.underlying44]
  have hu : Try.prog.underlying 44 = some (.slice (Try.prog.elem 44)) := by rw [hel]; exact Try.underlying44
  have ha : (A0.map fun x => x.add 0) = A0 := by cases A0 <;> simp [Addr.add]
  rw [run_slice_hm W 44 A0 n c0 hu .i64 .i64 (n : Int) (n : Int) (by omega) (by omega) (by omega), hel]
  simp [sizeOf, typeInfo, hi05, sliced, Result.andThen, ha]
 have k0 := eq_true (show (0 : Int) ≤ (n : Int) by omega)
 have k1 := eq_true hc0
 have k2 := eq_true (show (n : Int) ≤ (c0 : Int) by omega)
 clear hn hi05 hsz5 hc0
 go_enter Try.func78, Try.ntmps78
 go_wp2
 go_ret
 exact ⟨rfl, HB.out⟩
theorem num_yes (m : Nat) (r : List Int) (hm : m < 2 ^ 64) (g : Nat) (A : Option Addr) (c : Nat) (b : List Int) (hb : b = varint m ++ r) (bad : Bool) (w0 w : World) (hB : Below w0.heap.size w0 w) (hO : Own w0.heap.size w (otR g (.slice A b.length c) bad)) (hr : Kd.C (Kd.int .u8) w A b.length b) (hc : b.length ≤ c) (hby : Byt b) (hl : b.length < 1000000) :
  Calls Try.prog 74 #[.pointer (some ⟨g, 0, none⟩)] w fun e w' => ∃ A' c', e = .returned (.int .u64 (m : Int)) ∧ r.length ≤ c' ∧ (∀ w2, Kd.C (Kd.int .u8) w2 A b.length b → Kd.C (Kd.int .u8) w2 A' r.length r) ∧ Turned w0 w w' (fun k => k = g) (fun _ => otR g (.slice A' r.length c') bad) := by
 refine (num_calls g A c b bad w0 w hB hO hr hc hby hl).mono ?_
 rintro e w' (⟨m', r', A', c', hm', he, h1, h2, h3, h4⟩ | ⟨hno, _⟩)
 ·obtain ⟨e1, e2⟩ := varint_inj _ _ _ _ (hb.symm.trans he)
  rw [← e1] at h1
  rw [← e2] at h2 h3 h4
  exact ⟨A', c', h1, h2, h3, h4⟩
 ·exact absurd hb (hno m r hm)
theorem num_no (g : Nat) (A : Option Addr) (c : Nat) (b : List Int) (hno : ∀ m r, m < 2 ^ 64 → b ≠ varint m ++ r) (bad : Bool) (w0 w : World) (hB : Below w0.heap.size w0 w) (hO : Own w0.heap.size w (otR g (.slice A b.length c) bad)) (hr : Kd.C (Kd.int .u8) w A b.length b) (hc : b.length ≤ c) (hby : Byt b) (hl : b.length < 1000000) :
  Calls Try.prog 74 #[.pointer (some ⟨g, 0, none⟩)] w fun e w' => e = .returned (.int .u64 0) ∧ Turned w0 w w' (fun k => k = g) (fun _ => otR g (.slice none 0 0) true) := by
 refine (num_calls g A c b bad w0 w hB hO hr hc hby hl).mono ?_
 rintro e w' (⟨m', r', A', c', hm', he, _⟩ | ⟨_, h1, h2⟩)
 ·exact absurd he (hno m' r' hm')
 ·exact ⟨h1, h2⟩
theorem tkmark_n (g : Nat) (A : Option Addr) (c n : Nat) (b : List Int) (p : Nat) (bad : Bool) (w0 w : World) (hn : b.length = n) (hB : Below w0.heap.size w0 w) (hO : Own w0.heap.size w (tkR g (.slice A n c) p bad)) (hr : Kd.C (Kd.int .u8) w0 A b.length b) (hc : b.length ≤ c) (hby : Byt b) (hl : n < 1000000) (hp : p < 900000000) :
  Calls Try.prog 77 #[.pointer (some ⟨g, 0, none⟩)] w fun e w' => MarkR (tkR g (.slice A n c)) g (decS b p) p bad w0 w e w' := by
 subst hn
 exact tkmark_calls g A c b p bad w0 w hB hO hr hc hby hl hp
theorem clear_n (A : Option Addr) (c n q : Nat) (b : List Int) (z : Bool) (w : World) (hn : b.length = n) (hz : clr b (q : Int) = z) (hr : Kd.C (Kd.int .u8) w A b.length b) (hc : b.length ≤ c) (hb : Byt b) (hl : n < 1000000) :
  Calls Try.prog 28 #[.slice A n c, .int .i64 (q : Int)] w fun e w' => e = .returned (.bool z) ∧ Below w.heap.size w w' := by
 subst hn hz
 obtain ⟨K, hev⟩ := clear_ev hb hl (q : Int)
 exact bits_Clear.calls K A c b (q : Int) _ w hr hc (hev K (Nat.le_refl _))
theorem end_named (base g : Nat) (A : Option Addr) (n c : Nat) (bad : Bool) (z : Int) (w : World) (hz : (if bad = true ∨ 0 < n then (6 : Int) else 0) = z) (hO : Own base w (otR g (.slice A n c) bad)) :
  Calls Try.prog 76 #[.pointer (some ⟨g, 0, none⟩)] w fun e w' => e = .returned (.int .i64 z) ∧ Below w.heap.size w w' := hz ▸ end_calls base g A n c bad w hO
def ptsR (F : Nat → Prop) (A : Option Addr) (n : Nat) (l : List S52) : Res := ⟨F, fun w => Kd.C k52 w A n l⟩
theorem ptsR_nil (base : Nat) (w : World) : ∃ F, Own base w (ptsR F none ([] : List S52).length []) := ⟨fun _ => False, ⟨fun _ h => h.elim, fun _ h => h.elim, fun _ _ => Kd.C_nil _ _⟩⟩
theorem own_pts {base n c : Nat} {w : World} {F : Nat → Prop} {A : Option Addr} {l : List S52} {rs : List Res} (h : Sep base w (row F k52 52 base (.slice A n c) l :: rs)) : Own base w (ptsR F A l.length l) := h.own.imp rfl (fun _ hw => (Kd.R_reads' hw).2.2)
set_option maxHeartbeats 16000000 in
set_option maxRecDepth 100000 in
theorem stake_own (A0 : Option Addr) (c0 : Nat) (b : List Int) (l : List S52) (z : Int) (w : World) (hr0 : Kd.C (Kd.int .u8) w A0 b.length b) (hc0 : b.length ≤ c0) (hby : Byt b) (hl : b.length < 1000000) (hlz : takeR b = (l, z)) :
  Calls Try.prog 41 #[.slice A0 b.length c0] w fun e w' => ∃ A c, e = .returned (.tuple #[.slice A l.length c, .int .i64 z]) ∧ Kd.C k52 w' A l.length l ∧ l.length ≤ c ∧ (∃ F, Own w.heap.size w' (ptsR F A l.length l)) ∧ Below w.heap.size w w' := by
 have HB := Aside0.mk (Below.refl w.heap.size w)
 have HS := Aside0.mk (Sep.nil w.heap.size w)
 have HR := Aside0.mk hr0
 have HC := Aside0.mk hc0
 have HBY := Aside0.mk hby
 have HL := Aside0.mk hl
 have HLZ := Aside0.mk hlz
 clear hr0 hc0 hby hl hlz
 by_cases hex : ∃ (m : Nat) (r : List Int), m < 2 ^ 64 ∧ b = varint m ++ r
 ·obtain ⟨m, r, hm, hbr⟩ := hex
  have HM := Aside0.mk hm
  have HBR := Aside0.mk hbr
  obtain ⟨nr, hnr⟩ : ∃ n, n = r.length := ⟨_, rfl⟩
  have HNR := Aside0.mk hnr
  by_cases hlong : m > 1024
  ·have HE := Aside0.mk (show takeR b = ([], 6) by rw [hbr]; exact take_long hlong)
   have c1b : decide ((1024 : Int) < (m : Int)) = true := decide_eq_true (by omega)
   have c1n : decide (1024 < m) = true := decide_eq_true hlong
   by_cases hz : nr = 0
   ·have hzb : ((nr : Int) == 0) = true := by rw [hz]; rfl
    have HZ := Aside0.mk hz
    clear hm hbr hnr hlong hz
    go_enter Try.func41, Try.ntmps41
    go_wp2_with (first
     | (go_at_call 73; ((with_reducible refine (onew_calls A0 c0 b _ (Kd.C_below HR.out HB.out) HC.out HL.out).mono ?_); rintro e w1 ⟨g, F1, A1, c1, rfl, hs_, hb⟩; have n1_ := Aside0.mk (Sep.join (by repeat (first | exact HS.out | apply sep_alloc | apply sep_drewN | apply sep_drew)) hb (below_size (by repeat (first | exact HB.out | apply below_alloc | apply pw_below_drewN | apply below_drew1))) hs_); have n0_ := Aside0.mk (below_step (by repeat (first | exact HB.out | apply below_alloc | apply pw_below_drewN | apply below_drew1)) hb); clear HB HS hs_ hb; have HB := n0_; have HS := n1_; clear n0_ n1_))
     | (go_at_call 74; ((with_reducible refine (num_yes m r HM.out g A1 c1 b HBR.out false w _ HB.out HS.out.own (Kd.R_reads' (Sep.R HS.out.drop)).2.2 (Kd.R_reads' (Sep.R HS.out.drop)).2.1 HBY.out HL.out).mono ?_); rintro e w2 ⟨A2, c2, rfl, hlc, hcd, ht⟩; rw [← HNR.out] at ht; clear hlc hcd; obtain ⟨F_, hs_⟩ := Turned.sep ht (HS.out) rfl; have n0_ := Aside0.mk (Turned.below ht); clear HB HS ht; have HB := n0_; have HS := Aside0.mk hs_; clear n0_ hs_))
     | (go_at_call 75; ((with_reducible refine (left_calls w.heap.size g A2 nr c2 false _ HS.out.own).mono ?_); rintro e w3 ⟨rfl, hb⟩; have n0_ := Aside0.mk (below_step (by repeat (first | exact HB.out | apply below_alloc | apply pw_below_drewN | apply below_drew1)) hb); have n1_ := Aside0.mk (Sep.below (by repeat (first | exact HS.out | apply sep_alloc | apply sep_drewN | apply sep_drew)) hb); clear HB HS; have HB := n0_; have HS := n1_; clear n0_ n1_ hb))
     | (go_at_call 76; ((with_reducible refine (end_named w.heap.size g A2 nr c2 false 0 _ (by simp [HZ.out]) HS.out.own).mono ?_); rintro e w4 ⟨rfl, hb⟩; have n0_ := Aside0.mk (below_step (by repeat (first | exact HB.out | apply below_alloc | apply pw_below_drewN | apply below_drew1)) hb); have n1_ := Aside0.mk (Sep.below (by repeat (first | exact HS.out | apply sep_alloc | apply sep_drewN | apply sep_drew)) hb); clear HB HS; have HB := n0_; have HS := n1_; clear n0_ n1_ hb)))
    go_ret2
    have hl := HLZ.out
    rw [HE.out] at hl
    injection hl with h1 h2
    subst h1 h2
    exact ⟨none, 0, rfl, Kd.C_nil _ _, by simp, ptsR_nil _ _, HB.out⟩
   ·have hzb : ((nr : Int) == 0) = false := by rw [beq_eq_false_iff_ne]; omega
    clear hm hbr hnr hlong hz
    go_enter Try.func41, Try.ntmps41
    go_wp2_with (first
     | (go_at_call 73; ((with_reducible refine (onew_calls A0 c0 b _ (Kd.C_below HR.out HB.out) HC.out HL.out).mono ?_); rintro e w1 ⟨g, F1, A1, c1, rfl, hs_, hb⟩; have n1_ := Aside0.mk (Sep.join (by repeat (first | exact HS.out | apply sep_alloc | apply sep_drewN | apply sep_drew)) hb (below_size (by repeat (first | exact HB.out | apply below_alloc | apply pw_below_drewN | apply below_drew1))) hs_); have n0_ := Aside0.mk (below_step (by repeat (first | exact HB.out | apply below_alloc | apply pw_below_drewN | apply below_drew1)) hb); clear HB HS hs_ hb; have HB := n0_; have HS := n1_; clear n0_ n1_))
     | (go_at_call 74; ((with_reducible refine (num_yes m r HM.out g A1 c1 b HBR.out false w _ HB.out HS.out.own (Kd.R_reads' (Sep.R HS.out.drop)).2.2 (Kd.R_reads' (Sep.R HS.out.drop)).2.1 HBY.out HL.out).mono ?_); rintro e w2 ⟨A2, c2, rfl, hlc, hcd, ht⟩; rw [← HNR.out] at ht; clear hlc hcd; obtain ⟨F_, hs_⟩ := Turned.sep ht (HS.out) rfl; have n0_ := Aside0.mk (Turned.below ht); clear HB HS ht; have HB := n0_; have HS := Aside0.mk hs_; clear n0_ hs_))
     | (go_at_call 75; ((with_reducible refine (left_calls w.heap.size g A2 nr c2 false _ HS.out.own).mono ?_); rintro e w3 ⟨rfl, hb⟩; have n0_ := Aside0.mk (below_step (by repeat (first | exact HB.out | apply below_alloc | apply pw_below_drewN | apply below_drew1)) hb); have n1_ := Aside0.mk (Sep.below (by repeat (first | exact HS.out | apply sep_alloc | apply sep_drewN | apply sep_drew)) hb); clear HB HS; have HB := n0_; have HS := n1_; clear n0_ n1_ hb)))
    go_ret2
    have hl := HLZ.out
    rw [HE.out] at hl
    injection hl with h1 h2
    subst h1 h2
    exact ⟨none, 0, rfl, Kd.C_nil _ _, by simp, ptsR_nil _ _, HB.out⟩
  ·have c1b : decide ((1024 : Int) < (m : Int)) = false := decide_eq_false (by omega)
   have c1n : decide (1024 < m) = false := decide_eq_false hlong
   have HM2 := Aside0.mk (show m ≤ 1024 by omega)
   have HBYR := Aside0.mk (show Byt r from byt_app (a := varint m) (hbr ▸ HBY.out))
   obtain ⟨i, hi⟩ : ∃ i, i = b.length - nr := ⟨_, rfl⟩
   have hbl : b.length = (varint m).length + nr := by rw [hnr, hbr, List.length_append]
   have hdr : b.drop i = r := by rw [hi, hbl, hbr, Nat.add_sub_cancel, List.drop_left]
   have hiw : wrap64 ((b.length : Int) - (nr : Int)) = (i : Int) := by have := HL.out; rw [w64 (by omega) (by omega)]; omega
   have HRL := Aside0.mk (show nr < 1000000 by have := HL.out; omega)
   obtain ⟨i05, hi05, _, hsz5, _⟩ := info_parts info5
   have hcut := cut_from (P := Try.prog) 24 5 .i64 Try.underlying24 hi05 1 hsz5 A0 b.length c0 (i : Int) (by omega) (by omega)
   obtain ⟨A4, hA4⟩ : ∃ A, A = (if c0 = i then A0 else A0.map (fun x => x.add (i * 1))) := ⟨_, rfl⟩
   have HCR := Aside0.mk (show Kd.C (Kd.int .u8) w A4 r.length r by rw [hA4, ← hdr]; exact Kd.C_drop (m := i) HR.out (by omega) HC.out)
   obtain ⟨c4, hc4⟩ : ∃ x, x = c0 - i := ⟨_, rfl⟩
   have HC4 := Aside0.mk (show r.length ≤ c4 by have := HC.out; rw [hc4, ← hnr]; omega)
   rw [Int.toNat_natCast, ← hA4, show b.length - i = r.length by omega, ← hc4] at hcut
   have k1 := eq_true (show i ≤ b.length by omega)
   have k1i := eq_true (show (i : Int) ≤ (b.length : Int) by omega)
   have k2i := eq_true (show 0 ≤ (i : Int) by omega)
   clear hm hbr hlong hi05 hsz5 hA4 hc4 hdr hbl hi
   have hz : ((nr : Int) == 0) = true ∧ nr = 0 ∨ ((nr : Int) == 0) = false := by
    by_cases h : nr = 0
    ·exact .inl ⟨by rw [h]; rfl, h⟩
    ·exact .inr (by rw [beq_eq_false_iff_ne]; omega)
   rw [← hnr] at hcut
   clear hnr
   rcases hz with ⟨hzb, hz⟩ | hzb
   all_goals (try have HZ := Aside0.mk hz)
   all_goals (try clear hz)
   all_goals (
    go_enter Try.func41, Try.ntmps41
    go_wp2_with (first
     | (go_at_call 73; ((with_reducible refine (onew_calls A0 c0 b _ (Kd.C_below HR.out HB.out) HC.out HL.out).mono ?_); rintro e w1 ⟨g, F1, A1, c1, rfl, hs_, hb⟩; have n1_ := Aside0.mk (Sep.join (by repeat (first | exact HS.out | apply sep_alloc | apply sep_drewN | apply sep_drew)) hb (below_size (by repeat (first | exact HB.out | apply below_alloc | apply pw_below_drewN | apply below_drew1))) hs_); have n0_ := Aside0.mk (below_step (by repeat (first | exact HB.out | apply below_alloc | apply pw_below_drewN | apply below_drew1)) hb); clear HB HS hs_ hb; have HB := n0_; have HS := n1_; clear n0_ n1_))
     | (go_at_call 74; ((with_reducible refine (num_yes m r HM.out g A1 c1 b HBR.out false w _ HB.out HS.out.own (Kd.R_reads' (Sep.R HS.out.drop)).2.2 (Kd.R_reads' (Sep.R HS.out.drop)).2.1 HBY.out HL.out).mono ?_); rintro e w2 ⟨A2, c2, rfl, hlc, hcd, ht⟩; rw [← HNR.out] at ht; clear hlc hcd; obtain ⟨F_, hs_⟩ := Turned.sep ht (HS.out) rfl; have n0_ := Aside0.mk (Turned.below ht); clear HB HS ht; have HB := n0_; have HS := Aside0.mk hs_; clear n0_ hs_))
     | (go_at_call 75; ((with_reducible refine (left_calls w.heap.size g A2 nr c2 false _ HS.out.own).mono ?_); rintro e w3 ⟨rfl, hb⟩; have n0_ := Aside0.mk (below_step (by repeat (first | exact HB.out | apply below_alloc | apply pw_below_drewN | apply below_drew1)) hb); have n1_ := Aside0.mk (Sep.below (by repeat (first | exact HS.out | apply sep_alloc | apply sep_drewN | apply sep_drew)) hb); clear HB HS; have HB := n0_; have HS := n1_; clear n0_ n1_ hb))
     | (go_at_call 76; ((with_reducible refine (end_named w.heap.size g A2 nr c2 false 0 _ (by simp [HZ.out]) HS.out.own).mono ?_); rintro e w4 ⟨rfl, hb⟩; have n0_ := Aside0.mk (below_step (by repeat (first | exact HB.out | apply below_alloc | apply pw_below_drewN | apply below_drew1)) hb); have n1_ := Aside0.mk (Sep.below (by repeat (first | exact HS.out | apply sep_alloc | apply sep_drewN | apply sep_drew)) hb); clear HB HS; have HB := n0_; have HS := n1_; clear n0_ n1_ hb))
     | ((with_reducible refine gate_dst (N := 35) rfl ?_); (try (refine gate_guard (by rfl) ?_; dsimp only)); refine box_event ?hg (N := 35) ?hd (cs := #[.slice A4 nr c4, .int .i64 0, .bool false]) (t := 101) ?hr ?_; (case hd => rfl); (case hg => rfl); (case hr => first | (go_simp; done) | (go_simp; rfl)); intro gx hg w5 hbox hb; have n0_ := Aside0.mk (below_step (by repeat (first | exact HB.out | apply below_alloc | apply pw_below_drewN | apply below_drew1)) hb); have n1_ := Aside0.mk (Sep.newbox (by repeat (first | exact HS.out | apply sep_alloc | apply sep_drewN | apply sep_drew)) hb (Nat.le_of_eq hg.symm) (below_size (by repeat (first | exact HB.out | apply below_alloc | apply pw_below_drewN | apply below_drew1))) hbox); clear HB HS; have HB := n0_; have HS := n1_; clear n0_ n1_ hb hbox hg)
     | ((with_reducible refine gate_dst (N := 7) rfl ?_); (try (refine gate_guard (by rfl) ?_; dsimp only)); refine box_event ?hg (N := 7) ?hd (cs := #[.int .i64 0, .int .i64 0]) (t := 87) ?hr ?_; (case hd => rfl); (case hg => rfl); (case hr => first | (go_simp; done) | (go_simp; rfl)); intro gt hg w6 hbox hb; have n0_ := Aside0.mk (below_step (by repeat (first | exact HB.out | apply below_alloc | apply pw_below_drewN | apply below_drew1)) hb); have n1_ := Aside0.mk (Sep.newbox (by repeat (first | exact HS.out | apply sep_alloc | apply sep_drewN | apply sep_drew)) hb (Nat.le_of_eq hg.symm) (below_size (by repeat (first | exact HB.out | apply below_alloc | apply pw_below_drewN | apply below_drew1))) hbox); clear HB HS; have HB := n0_; have HS := n1_; clear n0_ n1_ hb hbox hg)
     | ((with_reducible refine gate_dst (N := 8) rfl ?_); (try (refine gate_guard (by rfl) ?_; dsimp only)); refine box_event ?hg (N := 8) ?hd (cs := #[.int .i64 0, .int .i64 0]) (t := 87) ?hr ?_; (case hd => rfl); (case hg => rfl); (case hr => first | (go_simp; done) | (go_simp; rfl)); intro gv hg w7 hbox hb; have n0_ := Aside0.mk (below_step (by repeat (first | exact HB.out | apply below_alloc | apply pw_below_drewN | apply below_drew1)) hb); have n1_ := Aside0.mk (Sep.newbox (by repeat (first | exact HS.out | apply sep_alloc | apply sep_drewN | apply sep_drew)) hb (Nat.le_of_eq hg.symm) (below_size (by repeat (first | exact HB.out | apply below_alloc | apply pw_below_drewN | apply below_drew1))) hbox); clear HB HS; have HB := n0_; have HS := n1_; clear n0_ n1_ hb hbox hg))
    have n0_ := HS.out.drop4.drop4.p2.p3.p3.nilrow k52 52
    clear HS
    have HS := Aside0.mk n0_
    clear n0_ hzb
    have HXY := Aside0.mk (show decXY decS r m 0 = (decXY decS r (m - 0) 0).map (fun t => (([] : List Int) ++ t.1, ([] : List Int) ++ t.2.1, t.2.2)) by
     rcases decXY decS r m 0 with _ | ⟨xs, ys, z⟩ <;> rfl)
    go_loopg [9, 37] m (fun kq v9 v37 w' => ∃ (j : Nat) (O : List S52) (F : Nat → Prop) (xs ys : List Int) (a1 a2 b1 b2 : Int) (q : Nat), v37 = .int .u64 (j : Int) ∧
     Aside0 (kq + j = m ∧ q ≤ 136 * j ∧ decXY decS r m 0 = (decXY decS r (m - j) q).map (fun t => (xs ++ t.1, ys ++ t.2.1, t.2.2)) ∧ O.length = j ∧ (∀ us vs : List Int, us.length = vs.length → zipP (frs 0 0 (xs ++ us)) (frs 0 0 (ys ++ vs)) = O ++ zipP (frs a1 a2 us) (frs b1 b2 vs))) ∧
     Aside0 (Sep w.heap.size w' [row F k52 52 w.heap.size v9 O, pairR gv b1 b2, tkR gx (.slice A4 nr c4) q false, pairR gt a1 a2]) ∧ Aside0 (Below w.heap.size w w'))
    case atStart => exact ⟨0, [], _, [], [], 0, 0, 0, 0, 0, rfl, ⟨by omega, by omega, HXY.out, rfl, fun us vs _ => rfl⟩, HS, HB⟩
    case round =>
     clear HS HB HXY
     obtain ⟨j, O, F, xs, ys, a1, a2, b1, b2, q, rfl, HI, HS, HB⟩ := hrel
     obtain ⟨A_, c_, e_⟩ := Kd.R_slice (Sep.R HS.out)
     subst e_
     by_cases hlt : j < m
     ·obtain ⟨k1, rfl⟩ : ∃ n, gk = n + 1 := ⟨gk - 1, by have := HI.out; omega⟩
      have d1b : decide ((j : Int) < (m : Int)) = true := decide_eq_true (by omega)
      have d1n : decide (j < m) = true := decide_eq_true hlt
      have hnx : IntKind.u64.wrap ((j : Int) + 1) = ((j + 1 : Nat) : Int) := by have := HM2.out; rw [w_u64 (by omega) (by omega)]; simp
      have HX := Aside0.mk hnx
      have HJ := Aside0.mk hlt
      have HQ := Aside0.mk (show q < 800000000 by have := HI.out.2.1; have := HM2.out; omega)
      clear hnx hlt
      go_upto_region 12 with (first
       | ((with_reducible refine gate_dst (N := 40) rfl ?_); (try (refine gate_guard (by rfl) ?_; dsimp only)); refine goesL_ (some 40) rfl rfl Try.func77 (by kernel_rfl) rfl #[.pointer (some ⟨gx, 0, none⟩)] rfl (by (try simp only [List.map_toArray, List.map_cons, List.map_nil]); first | done | rfl) ?_; (with_reducible refine (tkmark_n gx A4 c4 nr r q false w _ HNR.out.symm HB.out HS.out.p3.own HCR.out HC4.out HBYR.out HRL.out (by have := HQ.out; omega)).mono ?_); rintro e w8 ⟨v1, q1, bad1, rfl, ht, hq1, _, h11, h12⟩; refine ⟨_, rfl, ?_⟩; have H11 := Aside0.mk h11; have H12 := Aside0.mk h12; have HQ1 := Aside0.mk hq1; clear h11 h12 hq1; obtain ⟨F_, hs_⟩ := Turned.sep ht (HS.out.p3) rfl; have n0_ := Aside0.mk (Turned.below ht); clear HB HS ht; have HB := n0_; have HS := Aside0.mk hs_; clear n0_ hs_)
       | ((with_reducible refine gate_dst (N := 41) rfl ?_); (try (refine gate_guard (by rfl) ?_; dsimp only)); refine goesL_ (some 41) rfl rfl Try.func71 (by kernel_rfl) rfl #[.pointer (some ⟨gt, 0, none⟩), .int .i64 v1] rfl (by (try simp only [List.map_toArray, List.map_cons, List.map_nil]); first | done | rfl) ?_; (with_reducible refine (back_calls gt a1 a2 v1 w _ HB.out HS.out.p4.own).mono ?_); rintro e w9 ⟨rfl, ht⟩; refine ⟨_, rfl, ?_⟩; obtain ⟨F_, hs_⟩ := Turned.sep ht (HS.out.p4) rfl; have n0_ := Aside0.mk (Turned.below ht); clear HB HS ht; have HB := n0_; have HS := Aside0.mk hs_; clear n0_ hs_; obtain ⟨x, hx⟩ : ∃ x, wrap64 (a1 + wrap64 (a2 + v1)) = x := ⟨_, rfl⟩; obtain ⟨x2, hx2⟩ : ∃ x, wrap64 (a2 + v1) = x := ⟨_, rfl⟩; have HX0 := Aside0.mk hx; have HX2 := Aside0.mk hx2; rw [hx2] at HS hx; rw [hx] at HS; rw [hx2, hx]; clear hx hx2)
       | ((with_reducible refine gate_dst (N := 10) rfl ?_); (try (refine gate_guard (by rfl) ?_; dsimp only)); refine box_event ?hg (N := 10) ?hd (cs := #[.int .i64 0, .int .i64 0]) (t := 52) ?hr ?_; (case hd => rfl); (case hg => rfl); (case hr => first | (go_simp; done) | (go_simp; rfl)); intro gp hg w5 hbox hb; have n0_ := Aside0.mk (below_step (by repeat (first | exact HB.out | apply below_alloc | apply pw_below_drewN | apply below_drew1)) hb); have n1_ := Aside0.mk (Sep.newbox (by repeat (first | exact HS.out | apply sep_alloc | apply sep_drewN | apply sep_drew)) hb (Nat.le_of_eq hg.symm) (below_size (by repeat (first | exact HB.out | apply below_alloc | apply pw_below_drewN | apply below_drew1))) hbox); clear HB HS; have HB := n0_; have HS := n1_; clear n0_ n1_ hb hbox hg; have hc0 := Sep.c20 HS.out; have hc1 := Sep.c21 HS.out; have hf0 := Sep.free HS.out 0; have hf1 := Sep.free HS.out 1)
       | ((with_reducible refine gate_dst (N := 44) rfl ?_); (try (refine gate_guard (by rfl) ?_; dsimp only)); refine goesL_ (some 44) rfl rfl Try.func77 (by kernel_rfl) rfl #[.pointer (some ⟨gx, 0, none⟩)] rfl (by (try simp only [List.map_toArray, List.map_cons, List.map_nil]); first | done | rfl) ?_; (with_reducible refine (tkmark_n gx A4 c4 nr r q1 bad1 w _ HNR.out.symm (below_set (below_set HB.out HS.out.ge (j := 0) (v := .int .i64 x)) HS.out.ge (j := 1) (v := .int .i64 0)) (Sep.own (Sep.p3 ((HS.out.s20 (.int .i64 x)).s21 (.int .i64 0)))) HCR.out HC4.out HBYR.out HRL.out (by have := HQ.out; have := HQ1.out; omega)).mono ?_); rintro e w8 ⟨v2, q2, bad2, rfl, ht, hq2, hm12, h21, h22⟩; refine ⟨_, rfl, ?_⟩; have H2M := Aside0.mk hm12; have H21 := Aside0.mk h21; have H22 := Aside0.mk h22; have HQ2 := Aside0.mk hq2; clear h21 h22 hq2 hm12 hc0 hc1 hf0 hf1; obtain ⟨F_, hs_⟩ := Turned.sep ht (Sep.p3 ((HS.out.s20 (.int .i64 x)).s21 (.int .i64 0))) rfl; have n0_ := Aside0.mk (Turned.below ht); clear HB HS ht; have HB := n0_; have HS := Aside0.mk hs_; clear n0_ hs_)
       | ((with_reducible refine gate_dst (N := 45) rfl ?_); (try (refine gate_guard (by rfl) ?_; dsimp only)); refine goesL_ (some 45) rfl rfl Try.func71 (by kernel_rfl) rfl #[.pointer (some ⟨gv, 0, none⟩), .int .i64 v2] rfl (by (try simp only [List.map_toArray, List.map_cons, List.map_nil]); first | done | rfl) ?_; (with_reducible refine (back_calls gv b1 b2 v2 w _ HB.out HS.out.p5.own).mono ?_); rintro e w9 ⟨rfl, ht⟩; refine ⟨_, rfl, ?_⟩; obtain ⟨F_, hs_⟩ := Turned.sep ht (HS.out.p5) rfl; have n0_ := Aside0.mk (Turned.below ht); clear HB HS ht; have HB := n0_; have HS := Aside0.mk hs_; clear n0_ hs_; obtain ⟨y, hy⟩ : ∃ y, wrap64 (b1 + wrap64 (b2 + v2)) = y := ⟨_, rfl⟩; obtain ⟨y2, hy2⟩ : ∃ y, wrap64 (b2 + v2) = y := ⟨_, rfl⟩; have HY0 := Aside0.mk hy; have HY2 := Aside0.mk hy2; rw [hy2] at HS hy; rw [hy] at HS; rw [hy2, hy]; clear hy hy2; have hc0 := Sep.c20 HS.out.p3; have hc1 := Sep.c21 HS.out.p3; have hf1 := Sep.free HS.out.p3 1))
      have n0_ := Aside0.mk (below_set (j := 1) (v := .int .i64 y) HB.out HS.out.p3.ge); have n1_ := Aside0.mk (HS.out.p3.s21 (.int .i64 y)); clear HB HS; have HB := n0_; have HS := n1_; clear n0_ n1_
      clear hc0 hc1 hf1
      generalize (World.setCell _ ⟨gp, 1, none⟩ (.int .i64 y)) = wz at HB HS ⊢
      have hx2 := Sep.c32 HS.out.p3
      have hc0 := Sep.c20 HS.out
      have hc1 := Sep.c21 HS.out
      obtain ⟨hn1, hn2⟩ := two_marks H11.out H12.out H2M.out H21.out H22.out
      cases bad2
      ·have HN2 := Aside0.mk (hn2 rfl)
       have HOL := Aside0.mk (show O.length + 1 ≤ 1025 by have := HI.out; have := HM2.out; have := HJ.out; omega)
       clear hn1 hn2
       go_wp2_with (first
        | ((with_reducible refine gate_builtin (b := .append) (xs := #[.tmp 51, .tmp 53]) rfl ?_); (at_builtin); (refine wp_append k52 (w0 := w) rfl (.tmp 51) (.tmp 53) 44 52 (.agg #[.int .i64 0, .int .i64 0]) 16 rfl Try.underlying44 info52 rfl (by decide) (by omega) ((⟨x, y⟩ : S52)) [.int .i64 x, .int .i64 y] HS.out.p5 rfl rfl (k52_mkM _ _ _ (⟨x, y⟩ : S52)) (by repeat (first | exact HB.out | apply below_alloc | apply pw_below_drewN | apply below_drew1)) (by have := HOL.out; omega) ?_); (intro v_ w_ F_ hs_ hb_); (obtain ⟨O1, hy_⟩ : ∃ y_, y_ = O ++ [(⟨x, y⟩ : S52)] := ⟨_, rfl⟩; rw [← hy_] at hs_; have HO1 := Aside0.mk hy_; clear hy_ HB HS; have HB := Aside0.mk hb_; have HS := Aside0.mk hs_; clear hs_ hb_; obtain ⟨A_, c_, e_⟩ := Kd.R_slice (Sep.R HS.out); subst e_); (skip)))
       go_roundg k1
       case measure => omega
       case rel => exact ⟨j + 1, O1, _, xs ++ [v1], ys ++ [v2], x, x2, y, y2, q2, (by first | rfl | rw [HX.out]), ⟨by have := HI.out; omega, by have := HI.out; have := HQ1.out; have := HQ2.out; omega, by
        rw [HI.out.2.2.1, show m - j = (m - (j + 1)) + 1 by have := HJ.out; omega, HN2.out]
        rcases decXY decS r (m - (j + 1)) q2 with _ | ⟨us, vs, z⟩
        ·rfl
        ·simp only [Option.map_some, List.append_assoc, List.cons_append, List.nil_append], by rw [HO1.out, List.length_append, HI.out.2.2.2.1]; rfl, fun us vs huv => by
        have := HI.out.2.2.2.2 (v1 :: us) (v2 :: vs) (by simp [huv])
        rw [List.append_assoc, List.append_assoc]
        simp only [List.cons_append, List.nil_append]
        rw [this, frs, frs, HX0.out, HX2.out, HY0.out, HY2.out, zipP_cons, HO1.out, List.append_assoc]
        rfl⟩, ⟨HS.out.drop2⟩, HB⟩
      ·have HN1 := Aside0.mk (show takeR b = ([], 6) by
        have e1 := HI.out.2.2.1
        rw [show m - j = (m - (j + 1)) + 1 by have := HJ.out; omega, hn1 rfl] at e1
        rw [HBR.out]
        exact take_strict e1)
       clear hn1 hn2
       go_wp2
       go_ret2
       have hl := HLZ.out
       rw [HN1.out] at hl
       injection hl with h1 h2
       subst h1 h2
       exact ⟨none, 0, rfl, Kd.C_nil _ _, by simp, ptsR_nil _ _, HB.out⟩
     ·have d1b : decide ((j : Int) < (m : Int)) = false := decide_eq_false (by omega)
      have d1n : decide (j < m) = false := decide_eq_false hlt
      have hjm : j = m := by have := HI.out; omega
      have hdec : decXY decS r m 0 = some (xs, ys, q) := by
       rw [HI.out.2.2.1, hjm, Nat.sub_self]
       simp [decXY]
      have hzip : zipP (frs 0 0 xs) (frs 0 0 ys) = O := by
       have := HI.out.2.2.2.2 [] [] rfl
       simpa [frs, zipP] using this
      have htk := take_prog HBYR.out HM2.out hdec
      rw [hzip, ← HBR.out, HLZ.out] at htk
      have HTK := Aside0.mk htk
      have HOL := Aside0.mk (show O.length < 4611686018427387904 by have := HI.out; have := HM2.out; omega)
      have HQ := Aside0.mk (show q ≤ 140000 by have := HI.out; have := HM2.out; omega)
      clear hlt hjm hdec hzip htk
      go_wp2
      have hx0 := Sep.c30 HS.out.p3
      have hx1 := Sep.c31 HS.out.p3
      by_cases hrt : rightB O = true
      ·have HRT := Aside0.mk hrt
       obtain ⟨q7, hq7⟩ : ∃ x, x = q + 7 := ⟨_, rfl⟩
       obtain ⟨q8, hq8⟩ : ∃ x, x = q7 / 8 := ⟨_, rfl⟩
       have hqq := HQ.out
       have r1 : wrap64 ((q : Int) + 7) = (q7 : Int) := by rw [w64 (by omega) (by omega)]; omega
       have r1b : wrap64 (q7 : Int) = (q7 : Int) := by rw [w64 (by omega) (by omega)]
       have r2d : wrap64 (q8 : Int) = (q8 : Int) := by rw [w64 (by omega) (by omega)]
       have r2 : wrap64 (Int.tdiv (q7 : Int) 8) = (q8 : Int) := by rw [tdiv_pos (by omega), w64 (by omega) (by omega)]; omega
       have r2b : Int.tdiv (q7 : Int) 8 = (q8 : Int) := by rw [tdiv_pos (by omega)]; omega
       have r2c : (q7 : Int) / 8 = (q8 : Int) := by omega
       by_cases hlen : q8 = nr
       ·have hne : ((q8 : Int) != (nr : Int)) = false := by rw [hlen]; simp
        obtain ⟨z2, hz2⟩ : ∃ z, clr r (q : Int) = z := ⟨_, rfl⟩
        have HZ2 := Aside0.mk hz2
        have hl := HTK.out
        rw [show (q + 7) / 8 = r.length by rw [← HNR.out, ← hlen, hq8, hq7], hz2] at hl
        have HL2 := Aside0.mk hl
        clear hrt hx0 hx1 hq7 hq8 hqq hlen hz2 hl
        refine start_ (n := 29) (S := fun w' => w'.cell? ⟨gx, 0, none⟩ = some (.slice A4 nr c4) ∧ w'.cell? ⟨gx, 1, none⟩ = some (.int .i64 (q : Int))) (ds := []) #[false, false, false, false, false, false, false, false, false, false, false, false, false, false, false, false, false, false, false, false, false, false, false, false, false, false, false, false, false] (by kernel_rfl) rfl rfl ⟨Sep.c30 (sep_drew HS.out.p3), Sep.c31 (sep_drew HS.out.p3)⟩ (fun hHeld => ?_)
        have n0_ := Aside0.mk (below_drew HB.out)
        have n1_ := Aside0.mk (sep_drew HS.out)
        clear HB HS
        have HB := n0_
        have HS := n1_
        clear n0_ n1_
        generalize (World.drew wr) = wd_ at HB HS hHeld ⊢
        refine pure_ (i := 0) (N := some 56) (v := ?_) (a' := ?_) #[true, false, false, false, false, false, false, false, false, false, false, false, false, false, false, false, false, false, false, false, false, false, false, false, false, false, false, false, false] rfl rfl (by kernel_rfl) (fun _ _ _ h => h) (Or.inl ⟨by rfl, ?_⟩) ?_ ?_
        rotate_left
        ·intro w'
         go_simp
         with_reducible rfl
        rotate_left
        ·simp only [Act.put, sA_, sB_, sC_, i64_w, i32_w]
         rfl
        refine one_ (i := 1) (N := some 57) #[true, true, false, false, false, false, false, false, false, false, false, false, false, false, false, false, false, false, false, false, false, false, false, false, false, false, false, false, false] rfl rfl (by kernel_rfl) (by decide) (fun K hK => ?_)
        refine goes_ Try.func33 (by kernel_rfl) rfl #[.slice A_ O.length c_] (by rfl) rfl rfl (by first | (simp only [List.map_toArray, List.map_cons, List.map_nil]; done) | (simp only [List.map_toArray, List.map_cons, List.map_nil]; rfl) | rfl) ?_; with_reducible refine (right_named A_ c_ O true _ HRT.out (Kd.R_reads' (Sep.R HS.out)).2.2 (Kd.R_reads' (Sep.R HS.out)).2.1 HOL.out).mono ?_; rintro e w8 ⟨rfl, hb⟩; refine ⟨_, rfl, ?_⟩
        have n0_ := Aside0.mk (below_step (by repeat (first | exact HB.out | apply below_alloc | apply pw_below_drewN | apply below_drew1)) hb); have n1_ := Aside0.mk (Sep.below (by repeat (first | exact HS.out | apply sep_alloc | apply sep_drewN | apply sep_drew)) hb); clear HB HS; have HB := n0_; have HS := n1_; clear n0_ n1_ hb
        refine hK.out _ _ ⟨Sep.c30 HS.out.p3, Sep.c31 HS.out.p3⟩ (fun hHeld => ?_)
        clear hK K
        refine norm_ (a' := ?_) ?_ ?_
        rotate_left
        ·show Act.put _ (some 57) _ = _
         simp only [Act.put, sA_, sB_, sC_, i64_w, i32_w]
         rfl
        refine pure_ (i := 2) (N := some 58) (v := ?_) (a' := ?_) #[true, true, true, false, false, false, false, false, false, false, false, false, false, false, false, false, false, false, false, false, false, false, false, false, false, false, false, false, false] rfl rfl (by kernel_rfl) (fun _ _ _ h => h) (Or.inl ⟨by rfl, ?_⟩) ?_ ?_
        rotate_left
        ·intro w'
         go_simp
         with_reducible rfl
        rotate_left
        ·simp only [Act.put, sA_, sB_, sC_, i64_w, i32_w]
         rfl
        refine pure_ (i := 3) (N := some 59) (v := ?_) (a' := ?_) #[true, true, true, true, false, false, false, false, false, false, false, false, false, false, false, false, false, false, false, false, false, false, false, false, false, false, false, false, false] rfl rfl (by kernel_rfl) (fun _ _ _ h => h) (Or.inl ⟨by rfl, ?_⟩) ?_ ?_
        rotate_left
        ·intro w'
         go_simp
         with_reducible rfl
        rotate_left
        ·simp only [Act.put, sA_, sB_, sC_, i64_w, i32_w]
         rfl
        refine pure_ (i := 4) (N := some 60) (v := ?_) (a' := ?_) #[true, true, true, true, true, false, false, false, false, false, false, false, false, false, false, false, false, false, false, false, false, false, false, false, false, false, false, false, false] rfl rfl (by kernel_rfl) (fun _ _ _ h => h) (Or.inl ⟨by rfl, ?_⟩) ?_ ?_
        rotate_left
        ·intro w'
         go_simp
         with_reducible rfl
        rotate_left
        ·simp only [Act.put, sA_, sB_, sC_, i64_w, i32_w]
         rfl
        refine pure_ (i := 5) (N := some 61) (v := ?_) (a' := ?_) #[true, true, true, true, true, true, false, false, false, false, false, false, false, false, false, false, false, false, false, false, false, false, false, false, false, false, false, false, false] rfl rfl (by kernel_rfl) (fun _ _ _ h => h) (Or.inl ⟨by rfl, ?_⟩) ?_ ?_
        rotate_left
        ·intro w'
         go_simp
         with_reducible rfl
        rotate_left
        ·simp only [Act.put, sA_, sB_, sC_, i64_w, i32_w]
         rfl
        refine pure_ (i := 6) (N := some 62) (v := ?_) (a' := ?_) #[true, true, true, true, true, true, true, false, false, false, false, false, false, false, false, false, false, false, false, false, false, false, false, false, false, false, false, false, false] rfl rfl (by kernel_rfl) (fun _ _ _ h => h) (Or.inl ⟨by rfl, ?_⟩) ?_ ?_
        rotate_left
        ·intro w'
         go_simp
         with_reducible rfl
        rotate_left
        ·simp only [Act.put, sA_, sB_, sC_, i64_w, i32_w]
         rfl
        refine pure_ (i := 10) (N := some 66) (v := ?_) (a' := ?_) #[true, true, true, true, true, true, true, false, false, false, true, false, false, false, false, false, false, false, false, false, false, false, false, false, false, false, false, false, false] rfl rfl (by kernel_rfl) (fun _ _ _ h => h) (Or.inl ⟨by rfl, ?_⟩) ?_ ?_
        rotate_left
        ·intro w'
         go_simp
         with_reducible rfl
        rotate_left
        ·simp only [Act.put, sA_, sB_, sC_, i64_w, i32_w]
         rfl
        refine pure_ (i := 11) (N := some 67) (v := ?_) (a' := ?_) #[true, true, true, true, true, true, true, false, false, false, true, true, false, false, false, false, false, false, false, false, false, false, false, false, false, false, false, false, false] rfl rfl (by kernel_rfl) (fun _ _ _ h => h) (Or.inl ⟨by rfl, ?_⟩) ?_ ?_
        rotate_left
        ·intro w'
         go_simp
         with_reducible rfl
        rotate_left
        ·simp only [Act.put, sA_, sB_, sC_, i64_w, i32_w]
         rfl
        refine pure_ (i := 12) (N := some 68) (v := ?_) (a' := ?_) #[true, true, true, true, true, true, true, false, false, false, true, true, true, false, false, false, false, false, false, false, false, false, false, false, false, false, false, false, false] rfl rfl (by kernel_rfl) (fun _ _ _ h => h) (Or.inl ⟨by rfl, ?_⟩) ?_ ?_
        rotate_left
        ·intro w'
         go_simp
         with_reducible rfl
        rotate_left
        ·simp only [Act.put, sA_, sB_, sC_, i64_w, i32_w]
         rfl
        refine take_ (i := 7) (N := some 63) (v := ?_) (a' := ?_) #[true, true, true, true, true, true, true, true, false, false, true, true, true, false, false, false, false, false, false, false, false, false, false, false, false, false, false, false, false] rfl rfl (by kernel_rfl) (fun _ _ _ h => h) (Or.inl ⟨by rfl, ?_⟩) hHeld ?_ ?_
        rotate_left
        ·rintro w' ⟨s0, s1⟩
         go_simp
         with_reducible rfl
        rotate_left
        ·simp only [Act.put, sA_, sB_, sC_, i64_w, i32_w]
         rfl
        refine pure_ (i := 8) (N := some 64) (v := ?_) (a' := ?_) #[true, true, true, true, true, true, true, true, true, false, true, true, true, false, false, false, false, false, false, false, false, false, false, false, false, false, false, false, false] rfl rfl (by kernel_rfl) (fun _ _ _ h => h) (Or.inl ⟨by rfl, ?_⟩) ?_ ?_
        rotate_left
        ·intro w'
         go_simp
         with_reducible rfl
        rotate_left
        ·simp only [Act.put, sA_, sB_, sC_, i64_w, i32_w]
         rfl
        refine pure_ (i := 9) (N := some 65) (v := ?_) (a' := ?_) #[true, true, true, true, true, true, true, true, true, true, true, true, true, false, false, false, false, false, false, false, false, false, false, false, false, false, false, false, false] rfl rfl (by kernel_rfl) (fun _ _ _ h => h) (Or.inl ⟨by rfl, ?_⟩) ?_ ?_
        rotate_left
        ·intro w'
         go_simp
         with_reducible rfl
        rotate_left
        ·simp only [Act.put, sA_, sB_, sC_, i64_w, i32_w]
         rfl
        refine take_ (i := 13) (N := some 69) (v := ?_) (a' := ?_) #[true, true, true, true, true, true, true, true, true, true, true, true, true, true, false, false, false, false, false, false, false, false, false, false, false, false, false, false, false] rfl rfl (by kernel_rfl) (fun _ _ _ h => h) (Or.inl ⟨by rfl, ?_⟩) hHeld ?_ ?_
        rotate_left
        ·rintro w' ⟨s0, s1⟩
         go_simp
         with_reducible rfl
        rotate_left
        ·simp only [Act.put, sA_, sB_, sC_, i64_w, i32_w]
         rfl
        refine pure_ (i := 14) (N := some 70) (v := ?_) (a' := ?_) #[true, true, true, true, true, true, true, true, true, true, true, true, true, true, true, false, false, false, false, false, false, false, false, false, false, false, false, false, false] rfl rfl (by kernel_rfl) (fun _ _ _ h => h) (Or.inl ⟨by rfl, ?_⟩) ?_ ?_
        rotate_left
        ·intro w'
         go_simp
         with_reducible rfl
        rotate_left
        ·simp only [Act.put, sA_, sB_, sC_, i64_w, i32_w]
         rfl
        refine pure_ (i := 15) (N := some 71) (v := ?_) (a' := ?_) #[true, true, true, true, true, true, true, true, true, true, true, true, true, true, true, true, false, false, false, false, false, false, false, false, false, false, false, false, false] rfl rfl (by kernel_rfl) (fun _ _ _ h => h) (Or.inl ⟨by rfl, ?_⟩) ?_ ?_
        rotate_left
        ·intro w'
         go_simp
         with_reducible rfl
        rotate_left
        ·simp only [Act.put, sA_, sB_, sC_, i64_w, i32_w]
         rfl
        refine pure_ (i := 16) (N := some 72) (v := ?_) (a' := ?_) #[true, true, true, true, true, true, true, true, true, true, true, true, true, true, true, true, true, false, false, false, false, false, false, false, false, false, false, false, false] rfl rfl (by kernel_rfl) (fun _ _ _ h => h) (Or.inl ⟨by rfl, ?_⟩) ?_ ?_
        rotate_left
        ·intro w'
         go_simp
         with_reducible rfl
        rotate_left
        ·simp only [Act.put, sA_, sB_, sC_, i64_w, i32_w]
         rfl
        refine pure_ (i := 17) (N := some 73) (v := ?_) (a' := ?_) #[true, true, true, true, true, true, true, true, true, true, true, true, true, true, true, true, true, true, false, false, false, false, false, false, false, false, false, false, false] rfl rfl (by kernel_rfl) (fun _ _ _ h => h) (Or.inl ⟨by rfl, ?_⟩) ?_ ?_
        rotate_left
        ·intro w'
         go_simp
         with_reducible rfl
        rotate_left
        ·simp only [Act.put, sA_, sB_, sC_, i64_w, i32_w]
         rfl
        refine pure_ (i := 18) (N := some 74) (v := ?_) (a' := ?_) #[true, true, true, true, true, true, true, true, true, true, true, true, true, true, true, true, true, true, true, false, false, false, false, false, false, false, false, false, false] rfl rfl (by kernel_rfl) (fun _ _ _ h => h) (Or.inl ⟨by rfl, ?_⟩) ?_ ?_
        rotate_left
        ·intro w'
         go_simp
         with_reducible rfl
        rotate_left
        ·simp only [Act.put, sA_, sB_, sC_, i64_w, i32_w]
         rfl
        refine pure_ (i := 19) (N := some 75) (v := ?_) (a' := ?_) #[true, true, true, true, true, true, true, true, true, true, true, true, true, true, true, true, true, true, true, true, false, false, false, false, false, false, false, false, false] rfl rfl (by kernel_rfl) (fun _ _ _ h => h) (Or.inl ⟨by rfl, ?_⟩) ?_ ?_
        rotate_left
        ·intro w'
         go_simp
         with_reducible rfl
        rotate_left
        ·simp only [Act.put, sA_, sB_, sC_, i64_w, i32_w]
         rfl
        refine pure_ (i := 20) (N := some 76) (v := ?_) (a' := ?_) #[true, true, true, true, true, true, true, true, true, true, true, true, true, true, true, true, true, true, true, true, true, false, false, false, false, false, false, false, false] rfl rfl (by kernel_rfl) (fun _ _ _ h => h) (Or.inl ⟨by rfl, ?_⟩) ?_ ?_
        rotate_left
        ·intro w'
         go_simp
         with_reducible rfl
        rotate_left
        ·simp only [Act.put, sA_, sB_, sC_, i64_w, i32_w]
         rfl
        refine pure_ (i := 22) (N := some 78) (v := ?_) (a' := ?_) #[true, true, true, true, true, true, true, true, true, true, true, true, true, true, true, true, true, true, true, true, true, false, true, false, false, false, false, false, false] rfl rfl (by kernel_rfl) (fun _ _ _ h => h) (Or.inl ⟨by rfl, ?_⟩) ?_ ?_
        rotate_left
        ·intro w'
         go_simp
         with_reducible rfl
        rotate_left
        ·simp only [Act.put, sA_, sB_, sC_, i64_w, i32_w]
         rfl
        refine pure_ (i := 23) (N := some 79) (v := ?_) (a' := ?_) #[true, true, true, true, true, true, true, true, true, true, true, true, true, true, true, true, true, true, true, true, true, false, true, true, false, false, false, false, false] rfl rfl (by kernel_rfl) (fun _ _ _ h => h) (Or.inl ⟨by rfl, ?_⟩) ?_ ?_
        rotate_left
        ·intro w'
         go_simp
         with_reducible rfl
        rotate_left
        ·simp only [Act.put, sA_, sB_, sC_, i64_w, i32_w]
         rfl
        refine pure_ (i := 24) (N := some 80) (v := ?_) (a' := ?_) #[true, true, true, true, true, true, true, true, true, true, true, true, true, true, true, true, true, true, true, true, true, false, true, true, true, false, false, false, false] rfl rfl (by kernel_rfl) (fun _ _ _ h => h) (Or.inl ⟨by rfl, ?_⟩) ?_ ?_
        rotate_left
        ·intro w'
         go_simp
         with_reducible rfl
        rotate_left
        ·simp only [Act.put, sA_, sB_, sC_, i64_w, i32_w]
         rfl
        refine take_ (i := 21) (N := some 77) (v := ?_) (a' := ?_) #[true, true, true, true, true, true, true, true, true, true, true, true, true, true, true, true, true, true, true, true, true, true, true, true, true, false, false, false, false] rfl rfl (by kernel_rfl) (fun _ _ _ h => h) (Or.inl ⟨by rfl, ?_⟩) hHeld ?_ ?_
        rotate_left
        ·rintro w' ⟨s0, s1⟩
         go_simp
         with_reducible rfl
        rotate_left
        ·simp only [Act.put, sA_, sB_, sC_, i64_w, i32_w]
         rfl
        refine take_ (i := 25) (N := some 81) (v := ?_) (a' := ?_) #[true, true, true, true, true, true, true, true, true, true, true, true, true, true, true, true, true, true, true, true, true, true, true, true, true, true, false, false, false] rfl rfl (by kernel_rfl) (fun _ _ _ h => h) (Or.inl ⟨by rfl, ?_⟩) hHeld ?_ ?_
        rotate_left
        ·rintro w' ⟨s0, s1⟩
         go_simp
         with_reducible rfl
        rotate_left
        ·simp only [Act.put, sA_, sB_, sC_, i64_w, i32_w]
         rfl
        refine one_ (i := 26) (N := some 82) #[true, true, true, true, true, true, true, true, true, true, true, true, true, true, true, true, true, true, true, true, true, true, true, true, true, true, true, false, false] rfl rfl (by kernel_rfl) (by decide) (fun K hK => ?_)
        refine goes_ Try.func28 (by kernel_rfl) rfl #[.slice A4 nr c4, .int .i64 (q : Int)] (by rfl) rfl rfl (by first | (simp only [List.map_toArray, List.map_cons, List.map_nil]; done) | (simp only [List.map_toArray, List.map_cons, List.map_nil]; rfl) | rfl) ?_; with_reducible refine (clear_n A4 c4 nr q r z2 _ HNR.out.symm HZ2.out (Kd.C_below HCR.out HB.out) HC4.out HBYR.out HRL.out).mono ?_; rintro e w9 ⟨rfl, hb⟩; refine ⟨_, rfl, ?_⟩
        have n0_ := Aside0.mk (below_step (by repeat (first | exact HB.out | apply below_alloc | apply pw_below_drewN | apply below_drew1)) hb); have n1_ := Aside0.mk (Sep.below (by repeat (first | exact HS.out | apply sep_alloc | apply sep_drewN | apply sep_drew)) hb); clear HB HS; have HB := n0_; have HS := n1_; clear n0_ n1_ hb
        refine hK.out _ _ ⟨Sep.c30 HS.out.p3, Sep.c31 HS.out.p3⟩ (fun hHeld => ?_)
        clear hK K
        refine norm_ (a' := ?_) ?_ ?_
        rotate_left
        ·show Act.put _ (some 82) _ = _
         simp only [Act.put, sA_, sB_, sC_, i64_w, i32_w]
         rfl
        refine pure_ (i := 27) (N := some 83) (v := ?_) (a' := ?_) #[true, true, true, true, true, true, true, true, true, true, true, true, true, true, true, true, true, true, true, true, true, true, true, true, true, true, true, true, false] rfl rfl (by kernel_rfl) (fun _ _ _ h => h) (Or.inl ⟨by rfl, ?_⟩) ?_ ?_
        rotate_left
        ·intro w'
         go_simp
         with_reducible rfl
        rotate_left
        ·simp only [Act.put, sA_, sB_, sC_, i64_w, i32_w]
         rfl
        refine pure_ (i := 28) (N := some 84) (v := ?_) (a' := ?_) #[true, true, true, true, true, true, true, true, true, true, true, true, true, true, true, true, true, true, true, true, true, true, true, true, true, true, true, true, true] rfl rfl (by kernel_rfl) (fun _ _ _ h => h) (Or.inl ⟨by rfl, ?_⟩) ?_ ?_
        rotate_left
        ·intro w'
         go_simp
         with_reducible rfl
        rotate_left
        ·simp only [Act.put, sA_, sB_, sC_, i64_w, i32_w]
         rfl
        refine done_ (by kernel_rfl) ?_
        by_cases hz3 : z2 = true
        ·subst hz3
         go_wp2_with (first
          | (go_at_call 78; ((with_reducible refine (clip_calls A_ c_ O _ (Kd.R_reads' (Sep.R HS.out)).2.1).mono ?_); rintro e w9 ⟨rfl, hb⟩; have n0_ := Aside0.mk (below_step (by repeat (first | exact HB.out | apply below_alloc | apply pw_below_drewN | apply below_drew1)) hb); have n1_ := Aside0.mk (Sep.below (by repeat (first | exact HS.out | apply sep_alloc | apply sep_drewN | apply sep_drew)) hb); clear HB HS; have HB := n0_; have HS := n1_; clear n0_ n1_ hb)))
         go_ret2
         have hl := HL2.out
         rw [if_pos (by refine ⟨HRT.out, ?_, ?_⟩ <;> first | rfl | trivial | simp)] at hl
         injection hl with h1 h2
         subst h1 h2
         exact ⟨A_, l.length, rfl, (Kd.R_reads' (Sep.R HS.out)).2.2, Nat.le_refl _, ⟨_, own_pts HS.out⟩, HB.out⟩
        ·have hz4 : z2 = false := by simpa using hz3
         subst hz4
         go_wp2
         go_ret2
         have hl := HL2.out
         rw [if_neg (by rintro ⟨_, _, h⟩; cases h)] at hl
         injection hl with h1 h2
         subst h1 h2
         exact ⟨none, 0, rfl, Kd.C_nil _ _, by simp, ptsR_nil _ _, HB.out⟩
       ·have hne : ((q8 : Int) != (nr : Int)) = true := bne_iff_ne.2 (fun h => hlen (Int.natCast_inj.1 h))
        have hl := HTK.out
        rw [if_neg (by rintro ⟨_, h, _⟩; rw [← HNR.out] at h; exact hlen (by rw [hq8, hq7]; exact h))] at hl
        injection hl with h1 h2
        subst h1 h2
        clear hrt hx0 hx1 hq7 hq8 hqq hlen
        refine start_ (n := 29) (S := fun w' => w'.cell? ⟨gx, 0, none⟩ = some (.slice A4 nr c4) ∧ w'.cell? ⟨gx, 1, none⟩ = some (.int .i64 (q : Int))) (ds := []) #[false, false, false, false, false, false, false, false, false, false, false, false, false, false, false, false, false, false, false, false, false, false, false, false, false, false, false, false, false] (by kernel_rfl) rfl rfl ⟨Sep.c30 (sep_drew HS.out.p3), Sep.c31 (sep_drew HS.out.p3)⟩ (fun hHeld => ?_)
        have n0_ := Aside0.mk (below_drew HB.out)
        have n1_ := Aside0.mk (sep_drew HS.out)
        clear HB HS
        have HB := n0_
        have HS := n1_
        clear n0_ n1_
        generalize (World.drew wr) = wd_ at HB HS hHeld ⊢
        refine pure_ (i := 0) (N := some 56) (v := ?_) (a' := ?_) #[true, false, false, false, false, false, false, false, false, false, false, false, false, false, false, false, false, false, false, false, false, false, false, false, false, false, false, false, false] rfl rfl (by kernel_rfl) (fun _ _ _ h => h) (Or.inl ⟨by rfl, ?_⟩) ?_ ?_
        rotate_left
        ·intro w'
         go_simp
         with_reducible rfl
        rotate_left
        ·simp only [Act.put, sA_, sB_, sC_, i64_w, i32_w]
         rfl
        refine one_ (i := 1) (N := some 57) #[true, true, false, false, false, false, false, false, false, false, false, false, false, false, false, false, false, false, false, false, false, false, false, false, false, false, false, false, false] rfl rfl (by kernel_rfl) (by decide) (fun K hK => ?_)
        refine goes_ Try.func33 (by kernel_rfl) rfl #[.slice A_ O.length c_] (by rfl) rfl rfl (by first | (simp only [List.map_toArray, List.map_cons, List.map_nil]; done) | (simp only [List.map_toArray, List.map_cons, List.map_nil]; rfl) | rfl) ?_; with_reducible refine (right_named A_ c_ O true _ HRT.out (Kd.R_reads' (Sep.R HS.out)).2.2 (Kd.R_reads' (Sep.R HS.out)).2.1 HOL.out).mono ?_; rintro e w8 ⟨rfl, hb⟩; refine ⟨_, rfl, ?_⟩
        have n0_ := Aside0.mk (below_step (by repeat (first | exact HB.out | apply below_alloc | apply pw_below_drewN | apply below_drew1)) hb); have n1_ := Aside0.mk (Sep.below (by repeat (first | exact HS.out | apply sep_alloc | apply sep_drewN | apply sep_drew)) hb); clear HB HS; have HB := n0_; have HS := n1_; clear n0_ n1_ hb
        refine hK.out _ _ ⟨Sep.c30 HS.out.p3, Sep.c31 HS.out.p3⟩ (fun hHeld => ?_)
        clear hK K
        refine norm_ (a' := ?_) ?_ ?_
        rotate_left
        ·show Act.put _ (some 57) _ = _
         simp only [Act.put, sA_, sB_, sC_, i64_w, i32_w]
         rfl
        refine pure_ (i := 2) (N := some 58) (v := ?_) (a' := ?_) #[true, true, true, false, false, false, false, false, false, false, false, false, false, false, false, false, false, false, false, false, false, false, false, false, false, false, false, false, false] rfl rfl (by kernel_rfl) (fun _ _ _ h => h) (Or.inl ⟨by rfl, ?_⟩) ?_ ?_
        rotate_left
        ·intro w'
         go_simp
         with_reducible rfl
        rotate_left
        ·simp only [Act.put, sA_, sB_, sC_, i64_w, i32_w]
         rfl
        refine pure_ (i := 3) (N := some 59) (v := ?_) (a' := ?_) #[true, true, true, true, false, false, false, false, false, false, false, false, false, false, false, false, false, false, false, false, false, false, false, false, false, false, false, false, false] rfl rfl (by kernel_rfl) (fun _ _ _ h => h) (Or.inl ⟨by rfl, ?_⟩) ?_ ?_
        rotate_left
        ·intro w'
         go_simp
         with_reducible rfl
        rotate_left
        ·simp only [Act.put, sA_, sB_, sC_, i64_w, i32_w]
         rfl
        refine pure_ (i := 4) (N := some 60) (v := ?_) (a' := ?_) #[true, true, true, true, true, false, false, false, false, false, false, false, false, false, false, false, false, false, false, false, false, false, false, false, false, false, false, false, false] rfl rfl (by kernel_rfl) (fun _ _ _ h => h) (Or.inl ⟨by rfl, ?_⟩) ?_ ?_
        rotate_left
        ·intro w'
         go_simp
         with_reducible rfl
        rotate_left
        ·simp only [Act.put, sA_, sB_, sC_, i64_w, i32_w]
         rfl
        refine pure_ (i := 5) (N := some 61) (v := ?_) (a' := ?_) #[true, true, true, true, true, true, false, false, false, false, false, false, false, false, false, false, false, false, false, false, false, false, false, false, false, false, false, false, false] rfl rfl (by kernel_rfl) (fun _ _ _ h => h) (Or.inl ⟨by rfl, ?_⟩) ?_ ?_
        rotate_left
        ·intro w'
         go_simp
         with_reducible rfl
        rotate_left
        ·simp only [Act.put, sA_, sB_, sC_, i64_w, i32_w]
         rfl
        refine pure_ (i := 6) (N := some 62) (v := ?_) (a' := ?_) #[true, true, true, true, true, true, true, false, false, false, false, false, false, false, false, false, false, false, false, false, false, false, false, false, false, false, false, false, false] rfl rfl (by kernel_rfl) (fun _ _ _ h => h) (Or.inl ⟨by rfl, ?_⟩) ?_ ?_
        rotate_left
        ·intro w'
         go_simp
         with_reducible rfl
        rotate_left
        ·simp only [Act.put, sA_, sB_, sC_, i64_w, i32_w]
         rfl
        refine pure_ (i := 10) (N := some 66) (v := ?_) (a' := ?_) #[true, true, true, true, true, true, true, false, false, false, true, false, false, false, false, false, false, false, false, false, false, false, false, false, false, false, false, false, false] rfl rfl (by kernel_rfl) (fun _ _ _ h => h) (Or.inl ⟨by rfl, ?_⟩) ?_ ?_
        rotate_left
        ·intro w'
         go_simp
         with_reducible rfl
        rotate_left
        ·simp only [Act.put, sA_, sB_, sC_, i64_w, i32_w]
         rfl
        refine pure_ (i := 11) (N := some 67) (v := ?_) (a' := ?_) #[true, true, true, true, true, true, true, false, false, false, true, true, false, false, false, false, false, false, false, false, false, false, false, false, false, false, false, false, false] rfl rfl (by kernel_rfl) (fun _ _ _ h => h) (Or.inl ⟨by rfl, ?_⟩) ?_ ?_
        rotate_left
        ·intro w'
         go_simp
         with_reducible rfl
        rotate_left
        ·simp only [Act.put, sA_, sB_, sC_, i64_w, i32_w]
         rfl
        refine pure_ (i := 12) (N := some 68) (v := ?_) (a' := ?_) #[true, true, true, true, true, true, true, false, false, false, true, true, true, false, false, false, false, false, false, false, false, false, false, false, false, false, false, false, false] rfl rfl (by kernel_rfl) (fun _ _ _ h => h) (Or.inl ⟨by rfl, ?_⟩) ?_ ?_
        rotate_left
        ·intro w'
         go_simp
         with_reducible rfl
        rotate_left
        ·simp only [Act.put, sA_, sB_, sC_, i64_w, i32_w]
         rfl
        refine take_ (i := 7) (N := some 63) (v := ?_) (a' := ?_) #[true, true, true, true, true, true, true, true, false, false, true, true, true, false, false, false, false, false, false, false, false, false, false, false, false, false, false, false, false] rfl rfl (by kernel_rfl) (fun _ _ _ h => h) (Or.inl ⟨by rfl, ?_⟩) hHeld ?_ ?_
        rotate_left
        ·rintro w' ⟨s0, s1⟩
         go_simp
         with_reducible rfl
        rotate_left
        ·simp only [Act.put, sA_, sB_, sC_, i64_w, i32_w]
         rfl
        refine pure_ (i := 8) (N := some 64) (v := ?_) (a' := ?_) #[true, true, true, true, true, true, true, true, true, false, true, true, true, false, false, false, false, false, false, false, false, false, false, false, false, false, false, false, false] rfl rfl (by kernel_rfl) (fun _ _ _ h => h) (Or.inl ⟨by rfl, ?_⟩) ?_ ?_
        rotate_left
        ·intro w'
         go_simp
         with_reducible rfl
        rotate_left
        ·simp only [Act.put, sA_, sB_, sC_, i64_w, i32_w]
         rfl
        refine pure_ (i := 9) (N := some 65) (v := ?_) (a' := ?_) #[true, true, true, true, true, true, true, true, true, true, true, true, true, false, false, false, false, false, false, false, false, false, false, false, false, false, false, false, false] rfl rfl (by kernel_rfl) (fun _ _ _ h => h) (Or.inl ⟨by rfl, ?_⟩) ?_ ?_
        rotate_left
        ·intro w'
         go_simp
         with_reducible rfl
        rotate_left
        ·simp only [Act.put, sA_, sB_, sC_, i64_w, i32_w]
         rfl
        refine take_ (i := 13) (N := some 69) (v := ?_) (a' := ?_) #[true, true, true, true, true, true, true, true, true, true, true, true, true, true, false, false, false, false, false, false, false, false, false, false, false, false, false, false, false] rfl rfl (by kernel_rfl) (fun _ _ _ h => h) (Or.inl ⟨by rfl, ?_⟩) hHeld ?_ ?_
        rotate_left
        ·rintro w' ⟨s0, s1⟩
         go_simp
         with_reducible rfl
        rotate_left
        ·simp only [Act.put, sA_, sB_, sC_, i64_w, i32_w]
         rfl
        refine pure_ (i := 14) (N := some 70) (v := ?_) (a' := ?_) #[true, true, true, true, true, true, true, true, true, true, true, true, true, true, true, false, false, false, false, false, false, false, false, false, false, false, false, false, false] rfl rfl (by kernel_rfl) (fun _ _ _ h => h) (Or.inl ⟨by rfl, ?_⟩) ?_ ?_
        rotate_left
        ·intro w'
         go_simp
         with_reducible rfl
        rotate_left
        ·simp only [Act.put, sA_, sB_, sC_, i64_w, i32_w]
         rfl
        refine pure_ (i := 15) (N := some 71) (v := ?_) (a' := ?_) #[true, true, true, true, true, true, true, true, true, true, true, true, true, true, true, true, false, false, false, false, false, false, false, false, false, false, false, false, false] rfl rfl (by kernel_rfl) (fun _ _ _ h => h) (Or.inl ⟨by rfl, ?_⟩) ?_ ?_
        rotate_left
        ·intro w'
         go_simp
         with_reducible rfl
        rotate_left
        ·simp only [Act.put, sA_, sB_, sC_, i64_w, i32_w]
         rfl
        refine pure_ (i := 16) (N := some 72) (v := ?_) (a' := ?_) #[true, true, true, true, true, true, true, true, true, true, true, true, true, true, true, true, true, false, false, false, false, false, false, false, false, false, false, false, false] rfl rfl (by kernel_rfl) (fun _ _ _ h => h) (Or.inl ⟨by rfl, ?_⟩) ?_ ?_
        rotate_left
        ·intro w'
         go_simp
         with_reducible rfl
        rotate_left
        ·simp only [Act.put, sA_, sB_, sC_, i64_w, i32_w]
         rfl
        refine pure_ (i := 17) (N := some 73) (v := ?_) (a' := ?_) #[true, true, true, true, true, true, true, true, true, true, true, true, true, true, true, true, true, true, false, false, false, false, false, false, false, false, false, false, false] rfl rfl (by kernel_rfl) (fun _ _ _ h => h) (Or.inl ⟨by rfl, ?_⟩) ?_ ?_
        rotate_left
        ·intro w'
         go_simp
         with_reducible rfl
        rotate_left
        ·simp only [Act.put, sA_, sB_, sC_, i64_w, i32_w]
         rfl
        refine pure_ (i := 18) (N := some 74) (v := undef) (a' := ?_) #[true, true, true, true, true, true, true, true, true, true, true, true, true, true, true, true, true, true, true, false, false, false, false, false, false, false, false, false, false] rfl rfl (by kernel_rfl) (fun _ _ _ h => h) (Or.inr ⟨by rfl, rfl⟩) ?_ ?_
        rotate_left
        ·simp only [Act.put, sA_, sB_, sC_, i64_w, i32_w]
         rfl
        refine pure_ (i := 19) (N := some 75) (v := undef) (a' := ?_) #[true, true, true, true, true, true, true, true, true, true, true, true, true, true, true, true, true, true, true, true, false, false, false, false, false, false, false, false, false] rfl rfl (by kernel_rfl) (fun _ _ _ h => h) (Or.inr ⟨by rfl, rfl⟩) ?_ ?_
        rotate_left
        ·simp only [Act.put, sA_, sB_, sC_, i64_w, i32_w]
         rfl
        refine pure_ (i := 20) (N := some 76) (v := undef) (a' := ?_) #[true, true, true, true, true, true, true, true, true, true, true, true, true, true, true, true, true, true, true, true, true, false, false, false, false, false, false, false, false] rfl rfl (by kernel_rfl) (fun _ _ _ h => h) (Or.inr ⟨by rfl, rfl⟩) ?_ ?_
        rotate_left
        ·simp only [Act.put, sA_, sB_, sC_, i64_w, i32_w]
         rfl
        refine pure_ (i := 21) (N := some 77) (v := undef) (a' := ?_) #[true, true, true, true, true, true, true, true, true, true, true, true, true, true, true, true, true, true, true, true, true, true, false, false, false, false, false, false, false] rfl rfl (by kernel_rfl) (fun _ _ _ h => h) (Or.inr ⟨by rfl, rfl⟩) ?_ ?_
        rotate_left
        ·simp only [Act.put, sA_, sB_, sC_, i64_w, i32_w]
         rfl
        refine pure_ (i := 22) (N := some 78) (v := undef) (a' := ?_) #[true, true, true, true, true, true, true, true, true, true, true, true, true, true, true, true, true, true, true, true, true, true, true, false, false, false, false, false, false] rfl rfl (by kernel_rfl) (fun _ _ _ h => h) (Or.inr ⟨by rfl, rfl⟩) ?_ ?_
        rotate_left
        ·simp only [Act.put, sA_, sB_, sC_, i64_w, i32_w]
         rfl
        refine pure_ (i := 23) (N := some 79) (v := undef) (a' := ?_) #[true, true, true, true, true, true, true, true, true, true, true, true, true, true, true, true, true, true, true, true, true, true, true, true, false, false, false, false, false] rfl rfl (by kernel_rfl) (fun _ _ _ h => h) (Or.inr ⟨by rfl, rfl⟩) ?_ ?_
        rotate_left
        ·simp only [Act.put, sA_, sB_, sC_, i64_w, i32_w]
         rfl
        refine pure_ (i := 24) (N := some 80) (v := undef) (a' := ?_) #[true, true, true, true, true, true, true, true, true, true, true, true, true, true, true, true, true, true, true, true, true, true, true, true, true, false, false, false, false] rfl rfl (by kernel_rfl) (fun _ _ _ h => h) (Or.inr ⟨by rfl, rfl⟩) ?_ ?_
        rotate_left
        ·simp only [Act.put, sA_, sB_, sC_, i64_w, i32_w]
         rfl
        refine pure_ (i := 25) (N := some 81) (v := undef) (a' := ?_) #[true, true, true, true, true, true, true, true, true, true, true, true, true, true, true, true, true, true, true, true, true, true, true, true, true, true, false, false, false] rfl rfl (by kernel_rfl) (fun _ _ _ h => h) (Or.inr ⟨by rfl, rfl⟩) ?_ ?_
        rotate_left
        ·simp only [Act.put, sA_, sB_, sC_, i64_w, i32_w]
         rfl
        refine pure_ (i := 26) (N := some 82) (v := undef) (a' := ?_) #[true, true, true, true, true, true, true, true, true, true, true, true, true, true, true, true, true, true, true, true, true, true, true, true, true, true, true, false, false] rfl rfl (by kernel_rfl) (fun _ _ _ h => h) (Or.inr ⟨by rfl, rfl⟩) ?_ ?_
        rotate_left
        ·simp only [Act.put, sA_, sB_, sC_, i64_w, i32_w]
         rfl
        refine pure_ (i := 27) (N := some 83) (v := undef) (a' := ?_) #[true, true, true, true, true, true, true, true, true, true, true, true, true, true, true, true, true, true, true, true, true, true, true, true, true, true, true, true, false] rfl rfl (by kernel_rfl) (fun _ _ _ h => h) (Or.inr ⟨by rfl, rfl⟩) ?_ ?_
        rotate_left
        ·simp only [Act.put, sA_, sB_, sC_, i64_w, i32_w]
         rfl
        refine pure_ (i := 28) (N := some 84) (v := ?_) (a' := ?_) #[true, true, true, true, true, true, true, true, true, true, true, true, true, true, true, true, true, true, true, true, true, true, true, true, true, true, true, true, true] rfl rfl (by kernel_rfl) (fun _ _ _ h => h) (Or.inl ⟨by rfl, ?_⟩) ?_ ?_
        rotate_left
        ·intro w'
         go_simp
         with_reducible rfl
        rotate_left
        ·simp only [Act.put, sA_, sB_, sC_, i64_w, i32_w]
         rfl
        refine done_ (by kernel_rfl) ?_
        go_wp2
        go_ret2
        exact ⟨none, 0, rfl, Kd.C_nil _ _, by simp, ptsR_nil _ _, HB.out⟩
      ·have HRT := Aside0.mk (show rightB O = false by simpa using hrt)
       have hl := HTK.out
       rw [if_neg (by rintro ⟨h, _⟩; exact hrt h)] at hl
       injection hl with h1 h2
       subst h1 h2
       clear hrt hx0 hx1
       refine start_ (n := 29) (S := fun w' => True) (ds := []) #[false, false, false, false, false, false, false, false, false, false, false, false, false, false, false, false, false, false, false, false, false, false, false, false, false, false, false, false, false] (by kernel_rfl) rfl rfl trivial (fun hHeld => ?_)
       have n0_ := Aside0.mk (below_drew HB.out)
       have n1_ := Aside0.mk (sep_drew HS.out)
       clear HB HS
       have HB := n0_
       have HS := n1_
       clear n0_ n1_
       generalize (World.drew wr) = wd_ at HB HS hHeld ⊢
       refine pure_ (i := 0) (N := some 56) (v := ?_) (a' := ?_) #[true, false, false, false, false, false, false, false, false, false, false, false, false, false, false, false, false, false, false, false, false, false, false, false, false, false, false, false, false] rfl rfl (by kernel_rfl) (fun _ _ _ h => h) (Or.inl ⟨by rfl, ?_⟩) ?_ ?_
       rotate_left
       ·intro w'
        go_simp
        with_reducible rfl
       rotate_left
       ·simp only [Act.put, sA_, sB_, sC_, i64_w, i32_w]
        rfl
       refine one_ (i := 1) (N := some 57) #[true, true, false, false, false, false, false, false, false, false, false, false, false, false, false, false, false, false, false, false, false, false, false, false, false, false, false, false, false] rfl rfl (by kernel_rfl) (by decide) (fun K hK => ?_)
       refine goes_ Try.func33 (by kernel_rfl) rfl #[.slice A_ O.length c_] (by rfl) rfl rfl (by first | (simp only [List.map_toArray, List.map_cons, List.map_nil]; done) | (simp only [List.map_toArray, List.map_cons, List.map_nil]; rfl) | rfl) ?_; with_reducible refine (right_named A_ c_ O false _ HRT.out (Kd.R_reads' (Sep.R HS.out)).2.2 (Kd.R_reads' (Sep.R HS.out)).2.1 HOL.out).mono ?_; rintro e w8 ⟨rfl, hb⟩; refine ⟨_, rfl, ?_⟩
       have n0_ := Aside0.mk (below_step (by repeat (first | exact HB.out | apply below_alloc | apply pw_below_drewN | apply below_drew1)) hb); have n1_ := Aside0.mk (Sep.below (by repeat (first | exact HS.out | apply sep_alloc | apply sep_drewN | apply sep_drew)) hb); clear HB HS; have HB := n0_; have HS := n1_; clear n0_ n1_ hb
       refine hK.out _ _ trivial (fun hHeld => ?_)
       clear hK K
       refine norm_ (a' := ?_) ?_ ?_
       rotate_left
       ·show Act.put _ (some 57) _ = _
        simp only [Act.put, sA_, sB_, sC_, i64_w, i32_w]
        rfl
       refine pure_ (i := 2) (N := some 58) (v := ?_) (a' := ?_) #[true, true, true, false, false, false, false, false, false, false, false, false, false, false, false, false, false, false, false, false, false, false, false, false, false, false, false, false, false] rfl rfl (by kernel_rfl) (fun _ _ _ h => h) (Or.inl ⟨by rfl, ?_⟩) ?_ ?_
       rotate_left
       ·intro w'
        go_simp
        with_reducible rfl
       rotate_left
       ·simp only [Act.put, sA_, sB_, sC_, i64_w, i32_w]
        rfl
       refine pure_ (i := 3) (N := some 59) (v := ?_) (a' := ?_) #[true, true, true, true, false, false, false, false, false, false, false, false, false, false, false, false, false, false, false, false, false, false, false, false, false, false, false, false, false] rfl rfl (by kernel_rfl) (fun _ _ _ h => h) (Or.inl ⟨by rfl, ?_⟩) ?_ ?_
       rotate_left
       ·intro w'
        go_simp
        with_reducible rfl
       rotate_left
       ·simp only [Act.put, sA_, sB_, sC_, i64_w, i32_w]
        rfl
       refine pure_ (i := 4) (N := some 60) (v := undef) (a' := ?_) #[true, true, true, true, true, false, false, false, false, false, false, false, false, false, false, false, false, false, false, false, false, false, false, false, false, false, false, false, false] rfl rfl (by kernel_rfl) (fun _ _ _ h => h) (Or.inr ⟨by rfl, rfl⟩) ?_ ?_
       rotate_left
       ·simp only [Act.put, sA_, sB_, sC_, i64_w, i32_w]
        rfl
       refine pure_ (i := 5) (N := some 61) (v := undef) (a' := ?_) #[true, true, true, true, true, true, false, false, false, false, false, false, false, false, false, false, false, false, false, false, false, false, false, false, false, false, false, false, false] rfl rfl (by kernel_rfl) (fun _ _ _ h => h) (Or.inr ⟨by rfl, rfl⟩) ?_ ?_
       rotate_left
       ·simp only [Act.put, sA_, sB_, sC_, i64_w, i32_w]
        rfl
       refine pure_ (i := 6) (N := some 62) (v := undef) (a' := ?_) #[true, true, true, true, true, true, true, false, false, false, false, false, false, false, false, false, false, false, false, false, false, false, false, false, false, false, false, false, false] rfl rfl (by kernel_rfl) (fun _ _ _ h => h) (Or.inr ⟨by rfl, rfl⟩) ?_ ?_
       rotate_left
       ·simp only [Act.put, sA_, sB_, sC_, i64_w, i32_w]
        rfl
       refine pure_ (i := 7) (N := some 63) (v := undef) (a' := ?_) #[true, true, true, true, true, true, true, true, false, false, false, false, false, false, false, false, false, false, false, false, false, false, false, false, false, false, false, false, false] rfl rfl (by kernel_rfl) (fun _ _ _ h => h) (Or.inr ⟨by rfl, rfl⟩) ?_ ?_
       rotate_left
       ·simp only [Act.put, sA_, sB_, sC_, i64_w, i32_w]
        rfl
       refine pure_ (i := 8) (N := some 64) (v := undef) (a' := ?_) #[true, true, true, true, true, true, true, true, true, false, false, false, false, false, false, false, false, false, false, false, false, false, false, false, false, false, false, false, false] rfl rfl (by kernel_rfl) (fun _ _ _ h => h) (Or.inr ⟨by rfl, rfl⟩) ?_ ?_
       rotate_left
       ·simp only [Act.put, sA_, sB_, sC_, i64_w, i32_w]
        rfl
       refine pure_ (i := 9) (N := some 65) (v := undef) (a' := ?_) #[true, true, true, true, true, true, true, true, true, true, false, false, false, false, false, false, false, false, false, false, false, false, false, false, false, false, false, false, false] rfl rfl (by kernel_rfl) (fun _ _ _ h => h) (Or.inr ⟨by rfl, rfl⟩) ?_ ?_
       rotate_left
       ·simp only [Act.put, sA_, sB_, sC_, i64_w, i32_w]
        rfl
       refine pure_ (i := 10) (N := some 66) (v := undef) (a' := ?_) #[true, true, true, true, true, true, true, true, true, true, true, false, false, false, false, false, false, false, false, false, false, false, false, false, false, false, false, false, false] rfl rfl (by kernel_rfl) (fun _ _ _ h => h) (Or.inr ⟨by rfl, rfl⟩) ?_ ?_
       rotate_left
       ·simp only [Act.put, sA_, sB_, sC_, i64_w, i32_w]
        rfl
       refine pure_ (i := 11) (N := some 67) (v := undef) (a' := ?_) #[true, true, true, true, true, true, true, true, true, true, true, true, false, false, false, false, false, false, false, false, false, false, false, false, false, false, false, false, false] rfl rfl (by kernel_rfl) (fun _ _ _ h => h) (Or.inr ⟨by rfl, rfl⟩) ?_ ?_
       rotate_left
       ·simp only [Act.put, sA_, sB_, sC_, i64_w, i32_w]
        rfl
       refine pure_ (i := 12) (N := some 68) (v := undef) (a' := ?_) #[true, true, true, true, true, true, true, true, true, true, true, true, true, false, false, false, false, false, false, false, false, false, false, false, false, false, false, false, false] rfl rfl (by kernel_rfl) (fun _ _ _ h => h) (Or.inr ⟨by rfl, rfl⟩) ?_ ?_
       rotate_left
       ·simp only [Act.put, sA_, sB_, sC_, i64_w, i32_w]
        rfl
       refine pure_ (i := 13) (N := some 69) (v := undef) (a' := ?_) #[true, true, true, true, true, true, true, true, true, true, true, true, true, true, false, false, false, false, false, false, false, false, false, false, false, false, false, false, false] rfl rfl (by kernel_rfl) (fun _ _ _ h => h) (Or.inr ⟨by rfl, rfl⟩) ?_ ?_
       rotate_left
       ·simp only [Act.put, sA_, sB_, sC_, i64_w, i32_w]
        rfl
       refine pure_ (i := 14) (N := some 70) (v := undef) (a' := ?_) #[true, true, true, true, true, true, true, true, true, true, true, true, true, true, true, false, false, false, false, false, false, false, false, false, false, false, false, false, false] rfl rfl (by kernel_rfl) (fun _ _ _ h => h) (Or.inr ⟨by rfl, rfl⟩) ?_ ?_
       rotate_left
       ·simp only [Act.put, sA_, sB_, sC_, i64_w, i32_w]
        rfl
       refine pure_ (i := 15) (N := some 71) (v := undef) (a' := ?_) #[true, true, true, true, true, true, true, true, true, true, true, true, true, true, true, true, false, false, false, false, false, false, false, false, false, false, false, false, false] rfl rfl (by kernel_rfl) (fun _ _ _ h => h) (Or.inr ⟨by rfl, rfl⟩) ?_ ?_
       rotate_left
       ·simp only [Act.put, sA_, sB_, sC_, i64_w, i32_w]
        rfl
       refine pure_ (i := 16) (N := some 72) (v := ?_) (a' := ?_) #[true, true, true, true, true, true, true, true, true, true, true, true, true, true, true, true, true, false, false, false, false, false, false, false, false, false, false, false, false] rfl rfl (by kernel_rfl) (fun _ _ _ h => h) (Or.inl ⟨by rfl, ?_⟩) ?_ ?_
       rotate_left
       ·intro w'
        go_simp
        with_reducible rfl
       rotate_left
       ·simp only [Act.put, sA_, sB_, sC_, i64_w, i32_w]
        rfl
       refine pure_ (i := 17) (N := some 73) (v := ?_) (a' := ?_) #[true, true, true, true, true, true, true, true, true, true, true, true, true, true, true, true, true, true, false, false, false, false, false, false, false, false, false, false, false] rfl rfl (by kernel_rfl) (fun _ _ _ h => h) (Or.inl ⟨by rfl, ?_⟩) ?_ ?_
       rotate_left
       ·intro w'
        go_simp
        with_reducible rfl
       rotate_left
       ·simp only [Act.put, sA_, sB_, sC_, i64_w, i32_w]
        rfl
       refine pure_ (i := 18) (N := some 74) (v := undef) (a' := ?_) #[true, true, true, true, true, true, true, true, true, true, true, true, true, true, true, true, true, true, true, false, false, false, false, false, false, false, false, false, false] rfl rfl (by kernel_rfl) (fun _ _ _ h => h) (Or.inr ⟨by rfl, rfl⟩) ?_ ?_
       rotate_left
       ·simp only [Act.put, sA_, sB_, sC_, i64_w, i32_w]
        rfl
       refine pure_ (i := 19) (N := some 75) (v := undef) (a' := ?_) #[true, true, true, true, true, true, true, true, true, true, true, true, true, true, true, true, true, true, true, true, false, false, false, false, false, false, false, false, false] rfl rfl (by kernel_rfl) (fun _ _ _ h => h) (Or.inr ⟨by rfl, rfl⟩) ?_ ?_
       rotate_left
       ·simp only [Act.put, sA_, sB_, sC_, i64_w, i32_w]
        rfl
       refine pure_ (i := 20) (N := some 76) (v := undef) (a' := ?_) #[true, true, true, true, true, true, true, true, true, true, true, true, true, true, true, true, true, true, true, true, true, false, false, false, false, false, false, false, false] rfl rfl (by kernel_rfl) (fun _ _ _ h => h) (Or.inr ⟨by rfl, rfl⟩) ?_ ?_
       rotate_left
       ·simp only [Act.put, sA_, sB_, sC_, i64_w, i32_w]
        rfl
       refine pure_ (i := 21) (N := some 77) (v := undef) (a' := ?_) #[true, true, true, true, true, true, true, true, true, true, true, true, true, true, true, true, true, true, true, true, true, true, false, false, false, false, false, false, false] rfl rfl (by kernel_rfl) (fun _ _ _ h => h) (Or.inr ⟨by rfl, rfl⟩) ?_ ?_
       rotate_left
       ·simp only [Act.put, sA_, sB_, sC_, i64_w, i32_w]
        rfl
       refine pure_ (i := 22) (N := some 78) (v := undef) (a' := ?_) #[true, true, true, true, true, true, true, true, true, true, true, true, true, true, true, true, true, true, true, true, true, true, true, false, false, false, false, false, false] rfl rfl (by kernel_rfl) (fun _ _ _ h => h) (Or.inr ⟨by rfl, rfl⟩) ?_ ?_
       rotate_left
       ·simp only [Act.put, sA_, sB_, sC_, i64_w, i32_w]
        rfl
       refine pure_ (i := 23) (N := some 79) (v := undef) (a' := ?_) #[true, true, true, true, true, true, true, true, true, true, true, true, true, true, true, true, true, true, true, true, true, true, true, true, false, false, false, false, false] rfl rfl (by kernel_rfl) (fun _ _ _ h => h) (Or.inr ⟨by rfl, rfl⟩) ?_ ?_
       rotate_left
       ·simp only [Act.put, sA_, sB_, sC_, i64_w, i32_w]
        rfl
       refine pure_ (i := 24) (N := some 80) (v := undef) (a' := ?_) #[true, true, true, true, true, true, true, true, true, true, true, true, true, true, true, true, true, true, true, true, true, true, true, true, true, false, false, false, false] rfl rfl (by kernel_rfl) (fun _ _ _ h => h) (Or.inr ⟨by rfl, rfl⟩) ?_ ?_
       rotate_left
       ·simp only [Act.put, sA_, sB_, sC_, i64_w, i32_w]
        rfl
       refine pure_ (i := 25) (N := some 81) (v := undef) (a' := ?_) #[true, true, true, true, true, true, true, true, true, true, true, true, true, true, true, true, true, true, true, true, true, true, true, true, true, true, false, false, false] rfl rfl (by kernel_rfl) (fun _ _ _ h => h) (Or.inr ⟨by rfl, rfl⟩) ?_ ?_
       rotate_left
       ·simp only [Act.put, sA_, sB_, sC_, i64_w, i32_w]
        rfl
       refine pure_ (i := 26) (N := some 82) (v := undef) (a' := ?_) #[true, true, true, true, true, true, true, true, true, true, true, true, true, true, true, true, true, true, true, true, true, true, true, true, true, true, true, false, false] rfl rfl (by kernel_rfl) (fun _ _ _ h => h) (Or.inr ⟨by rfl, rfl⟩) ?_ ?_
       rotate_left
       ·simp only [Act.put, sA_, sB_, sC_, i64_w, i32_w]
        rfl
       refine pure_ (i := 27) (N := some 83) (v := undef) (a' := ?_) #[true, true, true, true, true, true, true, true, true, true, true, true, true, true, true, true, true, true, true, true, true, true, true, true, true, true, true, true, false] rfl rfl (by kernel_rfl) (fun _ _ _ h => h) (Or.inr ⟨by rfl, rfl⟩) ?_ ?_
       rotate_left
       ·simp only [Act.put, sA_, sB_, sC_, i64_w, i32_w]
        rfl
       refine pure_ (i := 28) (N := some 84) (v := ?_) (a' := ?_) #[true, true, true, true, true, true, true, true, true, true, true, true, true, true, true, true, true, true, true, true, true, true, true, true, true, true, true, true, true] rfl rfl (by kernel_rfl) (fun _ _ _ h => h) (Or.inl ⟨by rfl, ?_⟩) ?_ ?_
       rotate_left
       ·intro w'
        go_simp
        with_reducible rfl
       rotate_left
       ·simp only [Act.put, sA_, sB_, sC_, i64_w, i32_w]
        rfl
       refine done_ (by kernel_rfl) ?_
       go_wp2
       go_ret2
       exact ⟨none, 0, rfl, Kd.C_nil _ _, by simp, ptsR_nil _ _, HB.out⟩)
 ·have HNO := Aside0.mk (show ∀ m r, m < 2 ^ 64 → b ≠ varint m ++ r from fun m r hm he => hex ⟨m, r, hm, he⟩)
  clear hex
  go_enter Try.func41, Try.ntmps41
  go_wp2_with (first
   | (go_at_call 73; ((with_reducible refine (onew_calls A0 c0 b _ (Kd.C_below HR.out HB.out) HC.out HL.out).mono ?_); rintro e w1 ⟨g, F1, A1, c1, rfl, hs_, hb⟩; have n1_ := Aside0.mk (Sep.join (by repeat (first | exact HS.out | apply sep_alloc | apply sep_drewN | apply sep_drew)) hb (below_size (by repeat (first | exact HB.out | apply below_alloc | apply pw_below_drewN | apply below_drew1))) hs_); have n0_ := Aside0.mk (below_step (by repeat (first | exact HB.out | apply below_alloc | apply pw_below_drewN | apply below_drew1)) hb); clear HB HS hs_ hb; have HB := n0_; have HS := n1_; clear n0_ n1_))
   | (go_at_call 74; ((with_reducible refine (num_no g A1 c1 b HNO.out false w _ HB.out HS.out.own (Kd.R_reads' (Sep.R HS.out.drop)).2.2 (Kd.R_reads' (Sep.R HS.out.drop)).2.1 HBY.out HL.out).mono ?_); rintro e w2 ⟨rfl, ht⟩; obtain ⟨F_, hs_⟩ := Turned.sep ht (HS.out) rfl; have n0_ := Aside0.mk (Turned.below ht); clear HB HS ht; have HB := n0_; have HS := Aside0.mk hs_; clear n0_ hs_))
   | (go_at_call 75; ((with_reducible refine (left_calls w.heap.size g none 0 0 true _ HS.out.own).mono ?_); rintro e w3 ⟨rfl, hb⟩; have n0_ := Aside0.mk (below_step (by repeat (first | exact HB.out | apply below_alloc | apply pw_below_drewN | apply below_drew1)) hb); have n1_ := Aside0.mk (Sep.below (by repeat (first | exact HS.out | apply sep_alloc | apply sep_drewN | apply sep_drew)) hb); clear HB HS; have HB := n0_; have HS := n1_; clear n0_ n1_ hb))
   | (go_at_call 76; ((with_reducible refine (end_named w.heap.size g none 0 0 true 6 _ (by simp) HS.out.own).mono ?_); rintro e w4 ⟨rfl, hb⟩; have n0_ := Aside0.mk (below_step (by repeat (first | exact HB.out | apply below_alloc | apply pw_below_drewN | apply below_drew1)) hb); have n1_ := Aside0.mk (Sep.below (by repeat (first | exact HS.out | apply sep_alloc | apply sep_drewN | apply sep_drew)) hb); clear HB HS; have HB := n0_; have HS := n1_; clear n0_ n1_ hb)))
  go_ret2
  have hl := HLZ.out
  rw [take_none HNO.out] at hl
  injection hl with h1 h2
  subst h1 h2
  exact ⟨none, 0, rfl, Kd.C_nil _ _, by simp, ptsR_nil _ _, HB.out⟩
end Go.Proofs.Ythkpnnbjcendcaa.Sc
end
