/- What the law leans on, part 9: Stt, Otx, Sq, Psl. -/
import Derived.Test.YthkpnnbjcendcaaQf8
section
/- steps.Take, walked. -/
set_option linter.unusedVariables false
set_option linter.unusedSimpArgs false
open Go.RowKit Go.Proofs.Ythkpnnbjcendcaa.X Go.Proofs.Ythkpnnbjcendcaa.Pl Go.Proofs.Ythkpnnbjcendcaa.Sp Go.Proofs.Ythkpnnbjcendcaa.Pure Go.Proofs.YthkpnnbjcendcaaW.PrintWords Go.Proofs.YthkpnnbjcendcaaW.PrintLast Go.Proofs.YthkpnnbjcendcaaW.PrintMore
namespace Go.Proofs.Ythkpnnbjcendcaa.Sp
theorem Sep.p5 {base : Nat} {w : World} {a b c d e : Res} {rs : List Res} (h : Sep base w (a :: b :: c :: d :: e :: rs)) : Sep base w (e :: a :: b :: c :: d :: rs) := (h.perm ((((List.Perm.swap _ _ _).cons _).cons _).cons _)).p4
end Go.Proofs.Ythkpnnbjcendcaa.Sp
namespace Go.Proofs.Ythkpnnbjcendcaa.Pure
theorem two_marks {r : List Int} {q q1 q2 : Nat} {v1 v2 : Int} {bad1 bad2 : Bool}
    (h1 : ∀ n p', decS r q = some (n, p') → false = false → bad1 = false ∧ v1 = n ∧ q1 = p') (h1n : decS r q = none → bad1 = true)
    (hm : bad1 = true → bad2 = true) (h2 : ∀ n p', decS r q1 = some (n, p') → bad1 = false → bad2 = false ∧ v2 = n ∧ q2 = p') (h2n : decS r q1 = none → bad2 = true) :
    (bad2 = true → ∀ k, decXY decS r (k + 1) q = none) ∧ (bad2 = false → ∀ k, decXY decS r (k + 1) q = (decXY decS r k q2).map fun t => (v1 :: t.1, v2 :: t.2.1, t.2.2)) := by
  constructor
  · intro hb k
    rw [decXY]
    rcases hd : decS r q with _ | ⟨n, p'⟩
    · rfl
    · obtain ⟨e1, e2, e3⟩ := h1 n p' hd rfl
      subst e2 e3
      dsimp only
      rcases hd2 : decS r q1 with _ | ⟨n2, p2⟩
      · rfl
      · have := (h2 n2 p2 hd2 e1).1
        rw [hb] at this
        cases this
  · intro hb k
    rcases hd : decS r q with _ | ⟨n, p'⟩
    · rw [hm (h1n hd)] at hb
      cases hb
    · obtain ⟨e1, e2, e3⟩ := h1 n p' hd rfl
      subst e2 e3
      rw [decXY, hd]
      dsimp only
      rcases hd2 : decS r q1 with _ | ⟨n2, p2⟩
      · rw [h2n hd2] at hb
        cases hb
      · obtain ⟨e4, e5, e6⟩ := h2 n2 p2 hd2 e1
        subst e5 e6
        dsimp only
        rcases decXY decS r k q2 with _ | ⟨xs, ys, z⟩ <;> rfl
end Go.Proofs.Ythkpnnbjcendcaa.Pure
namespace Go.Proofs.Ythkpnnbjcendcaa.Sc
theorem clip_calls (A0 : Option Addr) (c0 : Nat) (l0 : List S52) (w : World) (hc0 : l0.length ≤ c0) :
    Calls Try.prog 78 #[.slice A0 l0.length c0] w fun e w' => e = .returned (.slice A0 l0.length l0.length) ∧ Below w.heap.size w w' := by
  have HB := Aside0.mk (Below.refl w.heap.size w)
  obtain ⟨n, hn⟩ : ∃ n, n = l0.length := ⟨_, rfl⟩
  rw [← hn] at hc0 ⊢
  obtain ⟨i05, hi05, _, hsz5, _⟩ := info_parts info52
  have hcut : ∀ W : World, (Instr.slice 44 (.slice A0 n c0) none (some (.int .i64 (n : Int))) (some (.int .i64 (n : Int)))).run Try.prog W = .ok (.slice A0 n n) W := by
    intro W
    have hel : Try.prog.elem 44 = 52 := by simp [Program.elem, Try.underlying44]
    have hu : Try.prog.underlying 44 = some (.slice (Try.prog.elem 44)) := by rw [hel]; exact Try.underlying44
    have ha : (A0.map fun x => x.add 0) = A0 := by cases A0 <;> simp [Addr.add]
    rw [run_slice_hm W 44 A0 n c0 hu .i64 .i64 (n : Int) (n : Int) (by omega) (by omega) (by omega), hel]
    simp [sizeOf, typeInfo, hi05, sliced, Result.andThen, ha]
  have k0 := eq_true (show (0 : Int) ≤ (n : Int) by omega)
  have k1 := eq_true hc0
  have k2 := eq_true (show (n : Int) ≤ (c0 : Int) by omega)
  clear hn hi05 hsz5 hc0
  go_enter Try.func78, Try.ntmps78
  go_wp2
  go_ret
  exact ⟨rfl, HB.out⟩
theorem num_yes (m : Nat) (r : List Int) (hm : m < 2 ^ 64) (g : Nat) (A : Option Addr) (c : Nat) (b : List Int) (hb : b = varint m ++ r) (bad : Bool) (w0 w : World) (hB : Below w0.heap.size w0 w) (hO : Own w0.heap.size w (otR g (.slice A b.length c) bad)) (hr : Kd.C (Kd.int .u8) w A b.length b) (hc : b.length ≤ c) (hby : Byt b) (hl : b.length < 1000000) :
    Calls Try.prog 74 #[.pointer (some ⟨g, 0, none⟩)] w fun e w' => ∃ A' c', e = .returned (.int .u64 (m : Int)) ∧ r.length ≤ c' ∧ (∀ w2, Kd.C (Kd.int .u8) w2 A b.length b → Kd.C (Kd.int .u8) w2 A' r.length r) ∧ Turned w0 w w' (fun k => k = g) (fun _ => otR g (.slice A' r.length c') bad) := by
  refine (num_calls g A c b bad w0 w hB hO hr hc hby hl).mono ?_
  rintro e w' (⟨m', r', A', c', hm', he, h1, h2, h3, h4⟩ | ⟨hno, _⟩)
  · obtain ⟨e1, e2⟩ := varint_inj _ _ _ _ (hb.symm.trans he)
    rw [← e1] at h1
    rw [← e2] at h2 h3 h4
    exact ⟨A', c', h1, h2, h3, h4⟩
  · exact absurd hb (hno m r hm)
theorem num_no (g : Nat) (A : Option Addr) (c : Nat) (b : List Int) (hno : ∀ m r, m < 2 ^ 64 → b ≠ varint m ++ r) (bad : Bool) (w0 w : World) (hB : Below w0.heap.size w0 w) (hO : Own w0.heap.size w (otR g (.slice A b.length c) bad)) (hr : Kd.C (Kd.int .u8) w A b.length b) (hc : b.length ≤ c) (hby : Byt b) (hl : b.length < 1000000) :
    Calls Try.prog 74 #[.pointer (some ⟨g, 0, none⟩)] w fun e w' => e = .returned (.int .u64 0) ∧ Turned w0 w w' (fun k => k = g) (fun _ => otR g (.slice none 0 0) true) := by
  refine (num_calls g A c b bad w0 w hB hO hr hc hby hl).mono ?_
  rintro e w' (⟨m', r', A', c', hm', he, _⟩ | ⟨_, h1, h2⟩)
  · exact absurd he (hno m' r' hm')
  · exact ⟨h1, h2⟩
theorem tkmark_n (g : Nat) (A : Option Addr) (c n : Nat) (b : List Int) (p : Nat) (bad : Bool) (w0 w : World) (hn : b.length = n) (hB : Below w0.heap.size w0 w) (hO : Own w0.heap.size w (tkR g (.slice A n c) p bad)) (hr : Kd.C (Kd.int .u8) w0 A b.length b) (hc : b.length ≤ c) (hby : Byt b) (hl : n < 1000000) (hp : p < 900000000) :
    Calls Try.prog 77 #[.pointer (some ⟨g, 0, none⟩)] w fun e w' => MarkR (tkR g (.slice A n c)) g (decS b p) p bad w0 w e w' := by
  subst hn
  exact tkmark_calls g A c b p bad w0 w hB hO hr hc hby hl hp
theorem clear_n (A : Option Addr) (c n q : Nat) (b : List Int) (z : Bool) (w : World) (hn : b.length = n) (hz : clr b (q : Int) = z) (hr : Kd.C (Kd.int .u8) w A b.length b) (hc : b.length ≤ c) (hb : Byt b) (hl : n < 1000000) :
    Calls Try.prog 28 #[.slice A n c, .int .i64 (q : Int)] w fun e w' => e = .returned (.bool z) ∧ Below w.heap.size w w' := by
  subst hn hz
  obtain ⟨K, hev⟩ := clear_ev hb hl (q : Int)
  exact bits_Clear.calls K A c b (q : Int) _ w hr hc (hev K (Nat.le_refl _))
theorem end_named (base g : Nat) (A : Option Addr) (n c : Nat) (bad : Bool) (z : Int) (w : World) (hz : (if bad = true ∨ 0 < n then (6 : Int) else 0) = z) (hO : Own base w (otR g (.slice A n c) bad)) :
    Calls Try.prog 76 #[.pointer (some ⟨g, 0, none⟩)] w fun e w' => e = .returned (.int .i64 z) ∧ Below w.heap.size w w' := hz ▸ end_calls base g A n c bad w hO
/-- Points that are only read, in blocks of one's own. -/
def ptsR (F : Nat → Prop) (A : Option Addr) (n : Nat) (l : List S52) : Res := ⟨F, fun w => Kd.C k52 w A n l⟩
theorem ptsR_nil (base : Nat) (w : World) : ∃ F, Own base w (ptsR F none ([] : List S52).length []) := ⟨fun _ => False, ⟨fun _ h => h.elim, fun _ h => h.elim, fun _ _ => Kd.C_nil _ _⟩⟩
theorem own_pts {base n c : Nat} {w : World} {F : Nat → Prop} {A : Option Addr} {l : List S52} {rs : List Res} (h : Sep base w (row F k52 52 base (.slice A n c) l :: rs)) : Own base w (ptsR F A l.length l) := h.own.imp rfl (fun _ hw => (Kd.R_reads' hw).2.2)
set_option maxHeartbeats 16000000 in
set_option maxRecDepth 100000 in
theorem stake_own (A0 : Option Addr) (c0 : Nat) (b : List Int) (l : List S52) (z : Int) (w : World) (hr0 : Kd.C (Kd.int .u8) w A0 b.length b) (hc0 : b.length ≤ c0) (hby : Byt b) (hl : b.length < 1000000) (hlz : takeR b = (l, z)) :
    Calls Try.prog 41 #[.slice A0 b.length c0] w fun e w' => ∃ A c, e = .returned (.tuple #[.slice A l.length c, .int .i64 z]) ∧ Kd.C k52 w' A l.length l ∧ l.length ≤ c ∧ (∃ F, Own w.heap.size w' (ptsR F A l.length l)) ∧ Below w.heap.size w w' := by
  have HB := Aside0.mk (Below.refl w.heap.size w)
  have HS := Aside0.mk (Sep.nil w.heap.size w)
  have HR := Aside0.mk hr0
  have HC := Aside0.mk hc0
  have HBY := Aside0.mk hby
  have HL := Aside0.mk hl
  have HLZ := Aside0.mk hlz
  clear hr0 hc0 hby hl hlz
  by_cases hex : ∃ (m : Nat) (r : List Int), m < 2 ^ 64 ∧ b = varint m ++ r
  · obtain ⟨m, r, hm, hbr⟩ := hex
    have HM := Aside0.mk hm
    have HBR := Aside0.mk hbr
    obtain ⟨nr, hnr⟩ : ∃ n, n = r.length := ⟨_, rfl⟩
    have HNR := Aside0.mk hnr
    by_cases hlong : m > 1024
    · have HE := Aside0.mk (show takeR b = ([], 6) by rw [hbr]; exact take_long hlong)
      have c1b : decide ((1024 : Int) < (m : Int)) = true := decide_eq_true (by omega)
      have c1n : decide (1024 < m) = true := decide_eq_true hlong
      by_cases hz : nr = 0
      · have hzb : ((nr : Int) == 0) = true := by rw [hz]; rfl
        have HZ := Aside0.mk hz
        clear hm hbr hnr hlong hz
        go_enter Try.func41, Try.ntmps41
        go_wp2_with (first
          | (go_at_call 73; ((with_reducible refine (onew_calls A0 c0 b _ (Kd.C_below HR.out HB.out) HC.out HL.out).mono ?_); rintro e w1 ⟨g, F1, A1, c1, rfl, hs_, hb⟩; have n1_ := Aside0.mk (Sep.join (by repeat (first | (with_reducible first | exact HS.out | apply sep_alloc | apply sep_drewN | apply sep_drew) | exact HS.out)) hb (below_size (by repeat (first | (with_reducible first | exact HB.out | apply below_alloc | apply pw_below_drewN | apply below_drew1) | exact HB.out))) hs_); have n0_ := Aside0.mk (below_step (by repeat (first | (with_reducible first | exact HB.out | apply below_alloc | apply pw_below_drewN | apply below_drew1) | exact HB.out)) hb); clear HB HS hs_ hb; have HB := n0_; have HS := n1_; clear n0_ n1_))
          | (go_at_call 74; ((with_reducible refine (num_yes m r HM.out g A1 c1 b HBR.out false w _ HB.out HS.out.own (Kd.R_reads' (Sep.R HS.out.drop)).2.2 (Kd.R_reads' (Sep.R HS.out.drop)).2.1 HBY.out HL.out).mono ?_); rintro e w2 ⟨A2, c2, rfl, hlc, hcd, ht⟩; rw [← HNR.out] at ht; clear hlc hcd; obtain ⟨F_, hs_⟩ := Turned.sep ht (HS.out) rfl; have n0_ := Aside0.mk (Turned.below ht); clear HB HS ht; have HB := n0_; have HS := Aside0.mk hs_; clear n0_ hs_))
          | (go_at_call 75; ((with_reducible refine (left_calls w.heap.size g A2 nr c2 false _ HS.out.own).mono ?_); rintro e w3 ⟨rfl, hb⟩; have n0_ := Aside0.mk (below_step (by repeat (first | (with_reducible first | exact HB.out | apply below_alloc | apply pw_below_drewN | apply below_drew1) | exact HB.out)) hb); have n1_ := Aside0.mk (Sep.below (by repeat (first | (with_reducible first | exact HS.out | apply sep_alloc | apply sep_drewN | apply sep_drew) | exact HS.out)) hb); clear HB HS; have HB := n0_; have HS := n1_; clear n0_ n1_ hb))
          | (go_at_call 76; ((with_reducible refine (end_named w.heap.size g A2 nr c2 false 0 _ (by simp [HZ.out]) HS.out.own).mono ?_); rintro e w4 ⟨rfl, hb⟩; have n0_ := Aside0.mk (below_step (by repeat (first | (with_reducible first | exact HB.out | apply below_alloc | apply pw_below_drewN | apply below_drew1) | exact HB.out)) hb); have n1_ := Aside0.mk (Sep.below (by repeat (first | (with_reducible first | exact HS.out | apply sep_alloc | apply sep_drewN | apply sep_drew) | exact HS.out)) hb); clear HB HS; have HB := n0_; have HS := n1_; clear n0_ n1_ hb)))
        go_ret2
        have hl := HLZ.out
        rw [HE.out] at hl
        injection hl with h1 h2
        subst h1 h2
        exact ⟨none, 0, rfl, Kd.C_nil _ _, by simp, ptsR_nil _ _, HB.out⟩
      · have hzb : ((nr : Int) == 0) = false := by rw [beq_eq_false_iff_ne]; omega
        clear hm hbr hnr hlong hz
        go_enter Try.func41, Try.ntmps41
        go_wp2_with (first
          | (go_at_call 73; ((with_reducible refine (onew_calls A0 c0 b _ (Kd.C_below HR.out HB.out) HC.out HL.out).mono ?_); rintro e w1 ⟨g, F1, A1, c1, rfl, hs_, hb⟩; have n1_ := Aside0.mk (Sep.join (by repeat (first | (with_reducible first | exact HS.out | apply sep_alloc | apply sep_drewN | apply sep_drew) | exact HS.out)) hb (below_size (by repeat (first | (with_reducible first | exact HB.out | apply below_alloc | apply pw_below_drewN | apply below_drew1) | exact HB.out))) hs_); have n0_ := Aside0.mk (below_step (by repeat (first | (with_reducible first | exact HB.out | apply below_alloc | apply pw_below_drewN | apply below_drew1) | exact HB.out)) hb); clear HB HS hs_ hb; have HB := n0_; have HS := n1_; clear n0_ n1_))
          | (go_at_call 74; ((with_reducible refine (num_yes m r HM.out g A1 c1 b HBR.out false w _ HB.out HS.out.own (Kd.R_reads' (Sep.R HS.out.drop)).2.2 (Kd.R_reads' (Sep.R HS.out.drop)).2.1 HBY.out HL.out).mono ?_); rintro e w2 ⟨A2, c2, rfl, hlc, hcd, ht⟩; rw [← HNR.out] at ht; clear hlc hcd; obtain ⟨F_, hs_⟩ := Turned.sep ht (HS.out) rfl; have n0_ := Aside0.mk (Turned.below ht); clear HB HS ht; have HB := n0_; have HS := Aside0.mk hs_; clear n0_ hs_))
          | (go_at_call 75; ((with_reducible refine (left_calls w.heap.size g A2 nr c2 false _ HS.out.own).mono ?_); rintro e w3 ⟨rfl, hb⟩; have n0_ := Aside0.mk (below_step (by repeat (first | (with_reducible first | exact HB.out | apply below_alloc | apply pw_below_drewN | apply below_drew1) | exact HB.out)) hb); have n1_ := Aside0.mk (Sep.below (by repeat (first | (with_reducible first | exact HS.out | apply sep_alloc | apply sep_drewN | apply sep_drew) | exact HS.out)) hb); clear HB HS; have HB := n0_; have HS := n1_; clear n0_ n1_ hb)))
        go_ret2
        have hl := HLZ.out
        rw [HE.out] at hl
        injection hl with h1 h2
        subst h1 h2
        exact ⟨none, 0, rfl, Kd.C_nil _ _, by simp, ptsR_nil _ _, HB.out⟩
    · have c1b : decide ((1024 : Int) < (m : Int)) = false := decide_eq_false (by omega)
      have c1n : decide (1024 < m) = false := decide_eq_false hlong
      have HM2 := Aside0.mk (show m ≤ 1024 by omega)
      have HBYR := Aside0.mk (show Byt r from byt_app (a := varint m) (hbr ▸ HBY.out))
      obtain ⟨i, hi⟩ : ∃ i, i = b.length - nr := ⟨_, rfl⟩
      have hbl : b.length = (varint m).length + nr := by rw [hnr, hbr, List.length_append]
      have hdr : b.drop i = r := by rw [hi, hbl, hbr, Nat.add_sub_cancel, List.drop_left]
      have hiw : wrap64 ((b.length : Int) - (nr : Int)) = (i : Int) := by have := HL.out; rw [w64 (by omega) (by omega)]; omega
      have HRL := Aside0.mk (show nr < 1000000 by have := HL.out; omega)
      obtain ⟨i05, hi05, _, hsz5, _⟩ := info_parts info5
      have hcut := cut_from (P := Try.prog) 24 5 .i64 Try.underlying24 hi05 1 hsz5 A0 b.length c0 (i : Int) (by omega) (by omega)
      obtain ⟨A4, hA4⟩ : ∃ A, A = (if c0 = i then A0 else A0.map (fun x => x.add (i * 1))) := ⟨_, rfl⟩
      have HCR := Aside0.mk (show Kd.C (Kd.int .u8) w A4 r.length r by rw [hA4, ← hdr]; exact Kd.C_drop (m := i) HR.out (by omega) HC.out)
      obtain ⟨c4, hc4⟩ : ∃ x, x = c0 - i := ⟨_, rfl⟩
      have HC4 := Aside0.mk (show r.length ≤ c4 by have := HC.out; rw [hc4, ← hnr]; omega)
      rw [Int.toNat_natCast, ← hA4, show b.length - i = r.length by omega, ← hc4] at hcut
      have k1 := eq_true (show i ≤ b.length by omega)
      have k1i := eq_true (show (i : Int) ≤ (b.length : Int) by omega)
      have k2i := eq_true (show 0 ≤ (i : Int) by omega)
      clear hm hbr hlong hi05 hsz5 hA4 hc4 hdr hbl hi
      have hz : ((nr : Int) == 0) = true ∧ nr = 0 ∨ ((nr : Int) == 0) = false := by
        by_cases h : nr = 0
        · exact .inl ⟨by rw [h]; rfl, h⟩
        · exact .inr (by rw [beq_eq_false_iff_ne]; omega)
      rw [← hnr] at hcut
      clear hnr
      rcases hz with ⟨hzb, hz⟩ | hzb
      all_goals (try have HZ := Aside0.mk hz)
      all_goals (try clear hz)
      all_goals (
        go_enter Try.func41, Try.ntmps41
        go_wp2_with (first
          | (go_at_call 73; ((with_reducible refine (onew_calls A0 c0 b _ (Kd.C_below HR.out HB.out) HC.out HL.out).mono ?_); rintro e w1 ⟨g, F1, A1, c1, rfl, hs_, hb⟩; have n1_ := Aside0.mk (Sep.join (by repeat (first | (with_reducible first | exact HS.out | apply sep_alloc | apply sep_drewN | apply sep_drew) | exact HS.out)) hb (below_size (by repeat (first | (with_reducible first | exact HB.out | apply below_alloc | apply pw_below_drewN | apply below_drew1) | exact HB.out))) hs_); have n0_ := Aside0.mk (below_step (by repeat (first | (with_reducible first | exact HB.out | apply below_alloc | apply pw_below_drewN | apply below_drew1) | exact HB.out)) hb); clear HB HS hs_ hb; have HB := n0_; have HS := n1_; clear n0_ n1_))
          | (go_at_call 74; ((with_reducible refine (num_yes m r HM.out g A1 c1 b HBR.out false w _ HB.out HS.out.own (Kd.R_reads' (Sep.R HS.out.drop)).2.2 (Kd.R_reads' (Sep.R HS.out.drop)).2.1 HBY.out HL.out).mono ?_); rintro e w2 ⟨A2, c2, rfl, hlc, hcd, ht⟩; rw [← HNR.out] at ht; clear hlc hcd; obtain ⟨F_, hs_⟩ := Turned.sep ht (HS.out) rfl; have n0_ := Aside0.mk (Turned.below ht); clear HB HS ht; have HB := n0_; have HS := Aside0.mk hs_; clear n0_ hs_))
          | (go_at_call 75; ((with_reducible refine (left_calls w.heap.size g A2 nr c2 false _ HS.out.own).mono ?_); rintro e w3 ⟨rfl, hb⟩; have n0_ := Aside0.mk (below_step (by repeat (first | (with_reducible first | exact HB.out | apply below_alloc | apply pw_below_drewN | apply below_drew1) | exact HB.out)) hb); have n1_ := Aside0.mk (Sep.below (by repeat (first | (with_reducible first | exact HS.out | apply sep_alloc | apply sep_drewN | apply sep_drew) | exact HS.out)) hb); clear HB HS; have HB := n0_; have HS := n1_; clear n0_ n1_ hb))
          | (go_at_call 76; ((with_reducible refine (end_named w.heap.size g A2 nr c2 false 0 _ (by simp [HZ.out]) HS.out.own).mono ?_); rintro e w4 ⟨rfl, hb⟩; have n0_ := Aside0.mk (below_step (by repeat (first | (with_reducible first | exact HB.out | apply below_alloc | apply pw_below_drewN | apply below_drew1) | exact HB.out)) hb); have n1_ := Aside0.mk (Sep.below (by repeat (first | (with_reducible first | exact HS.out | apply sep_alloc | apply sep_drewN | apply sep_drew) | exact HS.out)) hb); clear HB HS; have HB := n0_; have HS := n1_; clear n0_ n1_ hb))
          | ((with_reducible refine gate_dst (N := 35) rfl ?_); (try (refine gate_guard (by rfl) ?_; dsimp only)); refine box_event ?hg (N := 35) ?hd (cs := #[.slice A4 nr c4, .int .i64 0, .bool false]) (t := 101) ?hr ?_; (case hd => rfl); (case hg => rfl); (case hr => first | (go_simp; done) | (go_simp; rfl)); intro gx hg w5 hbox hb; have n0_ := Aside0.mk (below_step (by repeat (first | (with_reducible first | exact HB.out | apply below_alloc | apply pw_below_drewN | apply below_drew1) | exact HB.out)) hb); have n1_ := Aside0.mk (Sep.newbox (by repeat (first | (with_reducible first | exact HS.out | apply sep_alloc | apply sep_drewN | apply sep_drew) | exact HS.out)) hb (Nat.le_of_eq hg.symm) (below_size (by repeat (first | (with_reducible first | exact HB.out | apply below_alloc | apply pw_below_drewN | apply below_drew1) | exact HB.out))) hbox); clear HB HS; have HB := n0_; have HS := n1_; clear n0_ n1_ hb hbox hg)
          | ((with_reducible refine gate_dst (N := 7) rfl ?_); (try (refine gate_guard (by rfl) ?_; dsimp only)); refine box_event ?hg (N := 7) ?hd (cs := #[.int .i64 0, .int .i64 0]) (t := 87) ?hr ?_; (case hd => rfl); (case hg => rfl); (case hr => first | (go_simp; done) | (go_simp; rfl)); intro gt hg w6 hbox hb; have n0_ := Aside0.mk (below_step (by repeat (first | (with_reducible first | exact HB.out | apply below_alloc | apply pw_below_drewN | apply below_drew1) | exact HB.out)) hb); have n1_ := Aside0.mk (Sep.newbox (by repeat (first | (with_reducible first | exact HS.out | apply sep_alloc | apply sep_drewN | apply sep_drew) | exact HS.out)) hb (Nat.le_of_eq hg.symm) (below_size (by repeat (first | (with_reducible first | exact HB.out | apply below_alloc | apply pw_below_drewN | apply below_drew1) | exact HB.out))) hbox); clear HB HS; have HB := n0_; have HS := n1_; clear n0_ n1_ hb hbox hg)
          | ((with_reducible refine gate_dst (N := 8) rfl ?_); (try (refine gate_guard (by rfl) ?_; dsimp only)); refine box_event ?hg (N := 8) ?hd (cs := #[.int .i64 0, .int .i64 0]) (t := 87) ?hr ?_; (case hd => rfl); (case hg => rfl); (case hr => first | (go_simp; done) | (go_simp; rfl)); intro gv hg w7 hbox hb; have n0_ := Aside0.mk (below_step (by repeat (first | (with_reducible first | exact HB.out | apply below_alloc | apply pw_below_drewN | apply below_drew1) | exact HB.out)) hb); have n1_ := Aside0.mk (Sep.newbox (by repeat (first | (with_reducible first | exact HS.out | apply sep_alloc | apply sep_drewN | apply sep_drew) | exact HS.out)) hb (Nat.le_of_eq hg.symm) (below_size (by repeat (first | (with_reducible first | exact HB.out | apply below_alloc | apply pw_below_drewN | apply below_drew1) | exact HB.out))) hbox); clear HB HS; have HB := n0_; have HS := n1_; clear n0_ n1_ hb hbox hg))
        have n0_ := HS.out.drop4.drop4.p2.p3.p3.nilrow k52 52
        clear HS
        have HS := Aside0.mk n0_
        clear n0_ hzb
        have HXY := Aside0.mk (show decXY decS r m 0 = (decXY decS r (m - 0) 0).map (fun t => (([] : List Int) ++ t.1, ([] : List Int) ++ t.2.1, t.2.2)) by
          rcases decXY decS r m 0 with _ | ⟨xs, ys, z⟩ <;> rfl)
        go_loopg [9, 37] m (fun kq v9 v37 w' => ∃ (j : Nat) (O : List S52) (F : Nat → Prop) (xs ys : List Int) (a1 a2 b1 b2 : Int) (q : Nat), v37 = .int .u64 (j : Int) ∧
          Aside0 (kq + j = m ∧ q ≤ 136 * j ∧ decXY decS r m 0 = (decXY decS r (m - j) q).map (fun t => (xs ++ t.1, ys ++ t.2.1, t.2.2)) ∧ O.length = j ∧ (∀ us vs : List Int, us.length = vs.length → zipP (frs 0 0 (xs ++ us)) (frs 0 0 (ys ++ vs)) = O ++ zipP (frs a1 a2 us) (frs b1 b2 vs))) ∧
          Aside0 (Sep w.heap.size w' [row F k52 52 w.heap.size v9 O, pairR gv b1 b2, tkR gx (.slice A4 nr c4) q false, pairR gt a1 a2]) ∧ Aside0 (Below w.heap.size w w'))
        case atStart => exact ⟨0, [], _, [], [], 0, 0, 0, 0, 0, rfl, ⟨by omega, by omega, HXY.out, rfl, fun us vs _ => rfl⟩, HS, HB⟩
        case round =>
          clear HS HB HXY
          obtain ⟨j, O, F, xs, ys, a1, a2, b1, b2, q, rfl, HI, HS, HB⟩ := hrel
          obtain ⟨A_, c_, e_⟩ := Kd.R_slice (Sep.R HS.out)
          subst e_
          by_cases hlt : j < m
          · obtain ⟨k1, rfl⟩ : ∃ n, gk = n + 1 := ⟨gk - 1, by have := HI.out; omega⟩
            have d1b : decide ((j : Int) < (m : Int)) = true := decide_eq_true (by omega)
            have d1n : decide (j < m) = true := decide_eq_true hlt
            have hnx : IntKind.u64.wrap ((j : Int) + 1) = ((j + 1 : Nat) : Int) := by have := HM2.out; rw [w_u64 (by omega) (by omega)]; simp
            have HX := Aside0.mk hnx
            have HJ := Aside0.mk hlt
            have HQ := Aside0.mk (show q < 800000000 by have := HI.out.2.1; have := HM2.out; omega)
            clear hnx hlt
            go_upto_region 12 with (first
              | ((with_reducible refine gate_dst (N := 40) rfl ?_); (try (refine gate_guard (by rfl) ?_; dsimp only)); refine goesL_ (some 40) rfl rfl Try.func77 (by kernel_rfl) rfl #[.pointer (some ⟨gx, 0, none⟩)] rfl (by (try simp only [List.map_toArray, List.map_cons, List.map_nil]); first | done | rfl) ?_; (with_reducible refine (tkmark_n gx A4 c4 nr r q false w _ HNR.out.symm HB.out HS.out.p3.own HCR.out HC4.out HBYR.out HRL.out (by have := HQ.out; omega)).mono ?_); rintro e w8 ⟨v1, q1, bad1, rfl, ht, hq1, _, h11, h12⟩; refine ⟨_, rfl, ?_⟩; have H11 := Aside0.mk h11; have H12 := Aside0.mk h12; have HQ1 := Aside0.mk hq1; clear h11 h12 hq1; obtain ⟨F_, hs_⟩ := Turned.sep ht (HS.out.p3) rfl; have n0_ := Aside0.mk (Turned.below ht); clear HB HS ht; have HB := n0_; have HS := Aside0.mk hs_; clear n0_ hs_)
              | ((with_reducible refine gate_dst (N := 41) rfl ?_); (try (refine gate_guard (by rfl) ?_; dsimp only)); refine goesL_ (some 41) rfl rfl Try.func71 (by kernel_rfl) rfl #[.pointer (some ⟨gt, 0, none⟩), .int .i64 v1] rfl (by (try simp only [List.map_toArray, List.map_cons, List.map_nil]); first | done | rfl) ?_; (with_reducible refine (back_calls gt a1 a2 v1 w _ HB.out HS.out.p4.own).mono ?_); rintro e w9 ⟨rfl, ht⟩; refine ⟨_, rfl, ?_⟩; obtain ⟨F_, hs_⟩ := Turned.sep ht (HS.out.p4) rfl; have n0_ := Aside0.mk (Turned.below ht); clear HB HS ht; have HB := n0_; have HS := Aside0.mk hs_; clear n0_ hs_; obtain ⟨x, hx⟩ : ∃ x, wrap64 (a1 + wrap64 (a2 + v1)) = x := ⟨_, rfl⟩; obtain ⟨x2, hx2⟩ : ∃ x, wrap64 (a2 + v1) = x := ⟨_, rfl⟩; have HX0 := Aside0.mk hx; have HX2 := Aside0.mk hx2; rw [hx2] at HS hx; rw [hx] at HS; rw [hx2, hx]; clear hx hx2)
              | ((with_reducible refine gate_dst (N := 10) rfl ?_); (try (refine gate_guard (by rfl) ?_; dsimp only)); refine box_event ?hg (N := 10) ?hd (cs := #[.int .i64 0, .int .i64 0]) (t := 52) ?hr ?_; (case hd => rfl); (case hg => rfl); (case hr => first | (go_simp; done) | (go_simp; rfl)); intro gp hg w5 hbox hb; have n0_ := Aside0.mk (below_step (by repeat (first | (with_reducible first | exact HB.out | apply below_alloc | apply pw_below_drewN | apply below_drew1) | exact HB.out)) hb); have n1_ := Aside0.mk (Sep.newbox (by repeat (first | (with_reducible first | exact HS.out | apply sep_alloc | apply sep_drewN | apply sep_drew) | exact HS.out)) hb (Nat.le_of_eq hg.symm) (below_size (by repeat (first | (with_reducible first | exact HB.out | apply below_alloc | apply pw_below_drewN | apply below_drew1) | exact HB.out))) hbox); clear HB HS; have HB := n0_; have HS := n1_; clear n0_ n1_ hb hbox hg; have hc0 := Sep.c20 HS.out; have hc1 := Sep.c21 HS.out; have hf0 := Sep.free HS.out 0; have hf1 := Sep.free HS.out 1)
              | ((with_reducible refine gate_dst (N := 44) rfl ?_); (try (refine gate_guard (by rfl) ?_; dsimp only)); refine goesL_ (some 44) rfl rfl Try.func77 (by kernel_rfl) rfl #[.pointer (some ⟨gx, 0, none⟩)] rfl (by (try simp only [List.map_toArray, List.map_cons, List.map_nil]); first | done | rfl) ?_; (with_reducible refine (tkmark_n gx A4 c4 nr r q1 bad1 w _ HNR.out.symm (below_set (below_set HB.out HS.out.ge (j := 0) (v := .int .i64 x)) HS.out.ge (j := 1) (v := .int .i64 0)) (Sep.own (Sep.p3 ((HS.out.s20 (.int .i64 x)).s21 (.int .i64 0)))) HCR.out HC4.out HBYR.out HRL.out (by have := HQ.out; have := HQ1.out; omega)).mono ?_); rintro e w8 ⟨v2, q2, bad2, rfl, ht, hq2, hm12, h21, h22⟩; refine ⟨_, rfl, ?_⟩; have H2M := Aside0.mk hm12; have H21 := Aside0.mk h21; have H22 := Aside0.mk h22; have HQ2 := Aside0.mk hq2; clear h21 h22 hq2 hm12 hc0 hc1 hf0 hf1; obtain ⟨F_, hs_⟩ := Turned.sep ht (Sep.p3 ((HS.out.s20 (.int .i64 x)).s21 (.int .i64 0))) rfl; have n0_ := Aside0.mk (Turned.below ht); clear HB HS ht; have HB := n0_; have HS := Aside0.mk hs_; clear n0_ hs_)
              | ((with_reducible refine gate_dst (N := 45) rfl ?_); (try (refine gate_guard (by rfl) ?_; dsimp only)); refine goesL_ (some 45) rfl rfl Try.func71 (by kernel_rfl) rfl #[.pointer (some ⟨gv, 0, none⟩), .int .i64 v2] rfl (by (try simp only [List.map_toArray, List.map_cons, List.map_nil]); first | done | rfl) ?_; (with_reducible refine (back_calls gv b1 b2 v2 w _ HB.out HS.out.p5.own).mono ?_); rintro e w9 ⟨rfl, ht⟩; refine ⟨_, rfl, ?_⟩; obtain ⟨F_, hs_⟩ := Turned.sep ht (HS.out.p5) rfl; have n0_ := Aside0.mk (Turned.below ht); clear HB HS ht; have HB := n0_; have HS := Aside0.mk hs_; clear n0_ hs_; obtain ⟨y, hy⟩ : ∃ y, wrap64 (b1 + wrap64 (b2 + v2)) = y := ⟨_, rfl⟩; obtain ⟨y2, hy2⟩ : ∃ y, wrap64 (b2 + v2) = y := ⟨_, rfl⟩; have HY0 := Aside0.mk hy; have HY2 := Aside0.mk hy2; rw [hy2] at HS hy; rw [hy] at HS; rw [hy2, hy]; clear hy hy2; have hc0 := Sep.c20 HS.out.p3; have hc1 := Sep.c21 HS.out.p3; have hf1 := Sep.free HS.out.p3 1))
            have n0_ := Aside0.mk (below_set (j := 1) (v := .int .i64 y) HB.out HS.out.p3.ge); have n1_ := Aside0.mk (HS.out.p3.s21 (.int .i64 y)); clear HB HS; have HB := n0_; have HS := n1_; clear n0_ n1_
            clear hc0 hc1 hf1
            generalize (World.setCell _ ⟨gp, 1, none⟩ (.int .i64 y)) = wz at HB HS ⊢
            have hx2 := Sep.c32 HS.out.p3
            have hc0 := Sep.c20 HS.out
            have hc1 := Sep.c21 HS.out
            obtain ⟨hn1, hn2⟩ := two_marks H11.out H12.out H2M.out H21.out H22.out
            cases bad2
            · have HN2 := Aside0.mk (hn2 rfl)
              have HOL := Aside0.mk (show O.length + 1 ≤ 1025 by have := HI.out; have := HM2.out; have := HJ.out; omega)
              clear hn1 hn2
              go_wp2_with (first
                | ((with_reducible refine gate_builtin (b := .append) (xs := #[.tmp 51, .tmp 53]) rfl ?_); (at_builtin); (refine wp_append k52 (w0 := w) rfl (.tmp 51) (.tmp 53) 44 52 (.agg #[.int .i64 0, .int .i64 0]) 16 rfl Try.underlying44 info52 rfl (by decide) (by omega) ((⟨x, y⟩ : S52)) [.int .i64 x, .int .i64 y] HS.out.p5 rfl rfl (k52_mkM _ _ _ (⟨x, y⟩ : S52)) (by repeat (first | (with_reducible first | exact HB.out | apply below_alloc | apply pw_below_drewN | apply below_drew1) | exact HB.out)) (by have := HOL.out; omega) ?_); (intro v_ w_ F_ hs_ hb_); (obtain ⟨O1, hy_⟩ : ∃ y_, y_ = O ++ [(⟨x, y⟩ : S52)] := ⟨_, rfl⟩; rw [← hy_] at hs_; have HO1 := Aside0.mk hy_; clear hy_ HB HS; have HB := Aside0.mk hb_; have HS := Aside0.mk hs_; clear hs_ hb_; obtain ⟨A_, c_, e_⟩ := Kd.R_slice (Sep.R HS.out); subst e_); (skip)))
              go_roundg k1
              case measure => omega
              case rel => exact ⟨j + 1, O1, _, xs ++ [v1], ys ++ [v2], x, x2, y, y2, q2, (by first | rfl | rw [HX.out]), ⟨by have := HI.out; omega, by have := HI.out; have := HQ1.out; have := HQ2.out; omega, by
                rw [HI.out.2.2.1, show m - j = (m - (j + 1)) + 1 by have := HJ.out; omega, HN2.out]
                rcases decXY decS r (m - (j + 1)) q2 with _ | ⟨us, vs, z⟩
                · rfl
                · simp only [Option.map_some, List.append_assoc, List.cons_append, List.nil_append], by rw [HO1.out, List.length_append, HI.out.2.2.2.1]; rfl, fun us vs huv => by
                have := HI.out.2.2.2.2 (v1 :: us) (v2 :: vs) (by simp [huv])
                rw [List.append_assoc, List.append_assoc]
                simp only [List.cons_append, List.nil_append]
                rw [this, frs, frs, HX0.out, HX2.out, HY0.out, HY2.out, zipP_cons, HO1.out, List.append_assoc]
                rfl⟩, ⟨HS.out.drop2⟩, HB⟩
            · have HN1 := Aside0.mk (show takeR b = ([], 6) by
                have e1 := HI.out.2.2.1
                rw [show m - j = (m - (j + 1)) + 1 by have := HJ.out; omega, hn1 rfl] at e1
                rw [HBR.out]
                exact take_strict e1)
              clear hn1 hn2
              go_wp2
              go_ret2
              have hl := HLZ.out
              rw [HN1.out] at hl
              injection hl with h1 h2
              subst h1 h2
              exact ⟨none, 0, rfl, Kd.C_nil _ _, by simp, ptsR_nil _ _, HB.out⟩
          · have d1b : decide ((j : Int) < (m : Int)) = false := decide_eq_false (by omega)
            have d1n : decide (j < m) = false := decide_eq_false hlt
            have hjm : j = m := by have := HI.out; omega
            have hdec : decXY decS r m 0 = some (xs, ys, q) := by
              rw [HI.out.2.2.1, hjm, Nat.sub_self]
              simp [decXY]
            have hzip : zipP (frs 0 0 xs) (frs 0 0 ys) = O := by
              have := HI.out.2.2.2.2 [] [] rfl
              simpa [frs, zipP] using this
            have htk := take_prog HBYR.out HM2.out hdec
            rw [hzip, ← HBR.out, HLZ.out] at htk
            have HTK := Aside0.mk htk
            have HOL := Aside0.mk (show O.length < 4611686018427387904 by have := HI.out; have := HM2.out; omega)
            have HQ := Aside0.mk (show q ≤ 140000 by have := HI.out; have := HM2.out; omega)
            clear hlt hjm hdec hzip htk
            go_wp2
            have hx0 := Sep.c30 HS.out.p3
            have hx1 := Sep.c31 HS.out.p3
            by_cases hrt : rightB O = true
            · have HRT := Aside0.mk hrt
              obtain ⟨q7, hq7⟩ : ∃ x, x = q + 7 := ⟨_, rfl⟩
              obtain ⟨q8, hq8⟩ : ∃ x, x = q7 / 8 := ⟨_, rfl⟩
              have hqq := HQ.out
              have r1 : wrap64 ((q : Int) + 7) = (q7 : Int) := by rw [w64 (by omega) (by omega)]; omega
              have r1b : wrap64 (q7 : Int) = (q7 : Int) := by rw [w64 (by omega) (by omega)]
              have r2d : wrap64 (q8 : Int) = (q8 : Int) := by rw [w64 (by omega) (by omega)]
              have r2 : wrap64 (Int.tdiv (q7 : Int) 8) = (q8 : Int) := by rw [tdiv_pos (by omega), w64 (by omega) (by omega)]; omega
              have r2b : Int.tdiv (q7 : Int) 8 = (q8 : Int) := by rw [tdiv_pos (by omega)]; omega
              have r2c : (q7 : Int) / 8 = (q8 : Int) := by omega
              by_cases hlen : q8 = nr
              · have hne : ((q8 : Int) != (nr : Int)) = false := by rw [hlen]; simp
                obtain ⟨z2, hz2⟩ : ∃ z, clr r (q : Int) = z := ⟨_, rfl⟩
                have HZ2 := Aside0.mk hz2
                have hl := HTK.out
                rw [show (q + 7) / 8 = r.length by rw [← HNR.out, ← hlen, hq8, hq7], hz2] at hl
                have HL2 := Aside0.mk hl
                clear hrt hx0 hx1 hq7 hq8 hqq hlen hz2 hl
                refine start_ (n := 29) (S := fun w' => w'.cell? ⟨gx, 0, none⟩ = some (.slice A4 nr c4) ∧ w'.cell? ⟨gx, 1, none⟩ = some (.int .i64 (q : Int))) (ds := []) #[false, false, false, false, false, false, false, false, false, false, false, false, false, false, false, false, false, false, false, false, false, false, false, false, false, false, false, false, false] (by kernel_rfl) rfl rfl ⟨Sep.c30 (sep_drew HS.out.p3), Sep.c31 (sep_drew HS.out.p3)⟩ (fun hHeld => ?_)
                have n0_ := Aside0.mk (below_drew HB.out)
                have n1_ := Aside0.mk (sep_drew HS.out)
                clear HB HS
                have HB := n0_
                have HS := n1_
                clear n0_ n1_
                generalize (World.drew wr) = wd_ at HB HS hHeld ⊢
                refine pure_ (i := 0) (N := some 56) (v := ?_) (a' := ?_) #[true, false, false, false, false, false, false, false, false, false, false, false, false, false, false, false, false, false, false, false, false, false, false, false, false, false, false, false, false] rfl rfl (by kernel_rfl) (fun _ _ _ h => h) (Or.inl ⟨by rfl, ?_⟩) ?_ ?_
                rotate_left
                · intro w'
                  go_simp
                  with_reducible rfl
                rotate_left
                · simp only [Act.put, List.setIfInBounds_toArray, List.set_cons_zero, List.set_cons_succ, i64_w, i32_w]
                  rfl
                refine one_ (i := 1) (N := some 57) #[true, true, false, false, false, false, false, false, false, false, false, false, false, false, false, false, false, false, false, false, false, false, false, false, false, false, false, false, false] rfl rfl (by kernel_rfl) (by decide) (fun K hK => ?_)
                refine goes_ Try.func33 (by kernel_rfl) rfl #[.slice A_ O.length c_] (by rfl) rfl rfl (by first | (simp only [List.map_toArray, List.map_cons, List.map_nil]; done) | (simp only [List.map_toArray, List.map_cons, List.map_nil]; rfl) | rfl) ?_; with_reducible refine (right_named A_ c_ O true _ HRT.out (Kd.R_reads' (Sep.R HS.out)).2.2 (Kd.R_reads' (Sep.R HS.out)).2.1 HOL.out).mono ?_; rintro e w8 ⟨rfl, hb⟩; refine ⟨_, rfl, ?_⟩
                have n0_ := Aside0.mk (below_step (by repeat (first | (with_reducible first | exact HB.out | apply below_alloc | apply pw_below_drewN | apply below_drew1) | exact HB.out)) hb); have n1_ := Aside0.mk (Sep.below (by repeat (first | (with_reducible first | exact HS.out | apply sep_alloc | apply sep_drewN | apply sep_drew) | exact HS.out)) hb); clear HB HS; have HB := n0_; have HS := n1_; clear n0_ n1_ hb
                refine hK.out _ _ ⟨Sep.c30 HS.out.p3, Sep.c31 HS.out.p3⟩ (fun hHeld => ?_)
                clear hK K
                refine norm_ (a' := ?_) ?_ ?_
                rotate_left
                · show Act.put _ (some 57) _ = _
                  simp only [Act.put, List.setIfInBounds_toArray, List.set_cons_zero, List.set_cons_succ, i64_w, i32_w]
                  rfl
                refine pure_ (i := 2) (N := some 58) (v := ?_) (a' := ?_) #[true, true, true, false, false, false, false, false, false, false, false, false, false, false, false, false, false, false, false, false, false, false, false, false, false, false, false, false, false] rfl rfl (by kernel_rfl) (fun _ _ _ h => h) (Or.inl ⟨by rfl, ?_⟩) ?_ ?_
                rotate_left
                · intro w'
                  go_simp
                  with_reducible rfl
                rotate_left
                · simp only [Act.put, List.setIfInBounds_toArray, List.set_cons_zero, List.set_cons_succ, i64_w, i32_w]
                  rfl
                refine pure_ (i := 3) (N := some 59) (v := ?_) (a' := ?_) #[true, true, true, true, false, false, false, false, false, false, false, false, false, false, false, false, false, false, false, false, false, false, false, false, false, false, false, false, false] rfl rfl (by kernel_rfl) (fun _ _ _ h => h) (Or.inl ⟨by rfl, ?_⟩) ?_ ?_
                rotate_left
                · intro w'
                  go_simp
                  with_reducible rfl
                rotate_left
                · simp only [Act.put, List.setIfInBounds_toArray, List.set_cons_zero, List.set_cons_succ, i64_w, i32_w]
                  rfl
                refine pure_ (i := 4) (N := some 60) (v := ?_) (a' := ?_) #[true, true, true, true, true, false, false, false, false, false, false, false, false, false, false, false, false, false, false, false, false, false, false, false, false, false, false, false, false] rfl rfl (by kernel_rfl) (fun _ _ _ h => h) (Or.inl ⟨by rfl, ?_⟩) ?_ ?_
                rotate_left
                · intro w'
                  go_simp
                  with_reducible rfl
                rotate_left
                · simp only [Act.put, List.setIfInBounds_toArray, List.set_cons_zero, List.set_cons_succ, i64_w, i32_w]
                  rfl
                refine pure_ (i := 5) (N := some 61) (v := ?_) (a' := ?_) #[true, true, true, true, true, true, false, false, false, false, false, false, false, false, false, false, false, false, false, false, false, false, false, false, false, false, false, false, false] rfl rfl (by kernel_rfl) (fun _ _ _ h => h) (Or.inl ⟨by rfl, ?_⟩) ?_ ?_
                rotate_left
                · intro w'
                  go_simp
                  with_reducible rfl
                rotate_left
                · simp only [Act.put, List.setIfInBounds_toArray, List.set_cons_zero, List.set_cons_succ, i64_w, i32_w]
                  rfl
                refine pure_ (i := 6) (N := some 62) (v := ?_) (a' := ?_) #[true, true, true, true, true, true, true, false, false, false, false, false, false, false, false, false, false, false, false, false, false, false, false, false, false, false, false, false, false] rfl rfl (by kernel_rfl) (fun _ _ _ h => h) (Or.inl ⟨by rfl, ?_⟩) ?_ ?_
                rotate_left
                · intro w'
                  go_simp
                  with_reducible rfl
                rotate_left
                · simp only [Act.put, List.setIfInBounds_toArray, List.set_cons_zero, List.set_cons_succ, i64_w, i32_w]
                  rfl
                refine pure_ (i := 10) (N := some 66) (v := ?_) (a' := ?_) #[true, true, true, true, true, true, true, false, false, false, true, false, false, false, false, false, false, false, false, false, false, false, false, false, false, false, false, false, false] rfl rfl (by kernel_rfl) (fun _ _ _ h => h) (Or.inl ⟨by rfl, ?_⟩) ?_ ?_
                rotate_left
                · intro w'
                  go_simp
                  with_reducible rfl
                rotate_left
                · simp only [Act.put, List.setIfInBounds_toArray, List.set_cons_zero, List.set_cons_succ, i64_w, i32_w]
                  rfl
                refine pure_ (i := 11) (N := some 67) (v := ?_) (a' := ?_) #[true, true, true, true, true, true, true, false, false, false, true, true, false, false, false, false, false, false, false, false, false, false, false, false, false, false, false, false, false] rfl rfl (by kernel_rfl) (fun _ _ _ h => h) (Or.inl ⟨by rfl, ?_⟩) ?_ ?_
                rotate_left
                · intro w'
                  go_simp
                  with_reducible rfl
                rotate_left
                · simp only [Act.put, List.setIfInBounds_toArray, List.set_cons_zero, List.set_cons_succ, i64_w, i32_w]
                  rfl
                refine pure_ (i := 12) (N := some 68) (v := ?_) (a' := ?_) #[true, true, true, true, true, true, true, false, false, false, true, true, true, false, false, false, false, false, false, false, false, false, false, false, false, false, false, false, false] rfl rfl (by kernel_rfl) (fun _ _ _ h => h) (Or.inl ⟨by rfl, ?_⟩) ?_ ?_
                rotate_left
                · intro w'
                  go_simp
                  with_reducible rfl
                rotate_left
                · simp only [Act.put, List.setIfInBounds_toArray, List.set_cons_zero, List.set_cons_succ, i64_w, i32_w]
                  rfl
                refine take_ (i := 7) (N := some 63) (v := ?_) (a' := ?_) #[true, true, true, true, true, true, true, true, false, false, true, true, true, false, false, false, false, false, false, false, false, false, false, false, false, false, false, false, false] rfl rfl (by kernel_rfl) (fun _ _ _ h => h) (Or.inl ⟨by rfl, ?_⟩) hHeld ?_ ?_
                rotate_left
                · rintro w' ⟨s0, s1⟩
                  go_simp
                  with_reducible rfl
                rotate_left
                · simp only [Act.put, List.setIfInBounds_toArray, List.set_cons_zero, List.set_cons_succ, i64_w, i32_w]
                  rfl
                refine pure_ (i := 8) (N := some 64) (v := ?_) (a' := ?_) #[true, true, true, true, true, true, true, true, true, false, true, true, true, false, false, false, false, false, false, false, false, false, false, false, false, false, false, false, false] rfl rfl (by kernel_rfl) (fun _ _ _ h => h) (Or.inl ⟨by rfl, ?_⟩) ?_ ?_
                rotate_left
                · intro w'
                  go_simp
                  with_reducible rfl
                rotate_left
                · simp only [Act.put, List.setIfInBounds_toArray, List.set_cons_zero, List.set_cons_succ, i64_w, i32_w]
                  rfl
                refine pure_ (i := 9) (N := some 65) (v := ?_) (a' := ?_) #[true, true, true, true, true, true, true, true, true, true, true, true, true, false, false, false, false, false, false, false, false, false, false, false, false, false, false, false, false] rfl rfl (by kernel_rfl) (fun _ _ _ h => h) (Or.inl ⟨by rfl, ?_⟩) ?_ ?_
                rotate_left
                · intro w'
                  go_simp
                  with_reducible rfl
                rotate_left
                · simp only [Act.put, List.setIfInBounds_toArray, List.set_cons_zero, List.set_cons_succ, i64_w, i32_w]
                  rfl
                refine take_ (i := 13) (N := some 69) (v := ?_) (a' := ?_) #[true, true, true, true, true, true, true, true, true, true, true, true, true, true, false, false, false, false, false, false, false, false, false, false, false, false, false, false, false] rfl rfl (by kernel_rfl) (fun _ _ _ h => h) (Or.inl ⟨by rfl, ?_⟩) hHeld ?_ ?_
                rotate_left
                · rintro w' ⟨s0, s1⟩
                  go_simp
                  with_reducible rfl
                rotate_left
                · simp only [Act.put, List.setIfInBounds_toArray, List.set_cons_zero, List.set_cons_succ, i64_w, i32_w]
                  rfl
                refine pure_ (i := 14) (N := some 70) (v := ?_) (a' := ?_) #[true, true, true, true, true, true, true, true, true, true, true, true, true, true, true, false, false, false, false, false, false, false, false, false, false, false, false, false, false] rfl rfl (by kernel_rfl) (fun _ _ _ h => h) (Or.inl ⟨by rfl, ?_⟩) ?_ ?_
                rotate_left
                · intro w'
                  go_simp
                  with_reducible rfl
                rotate_left
                · simp only [Act.put, List.setIfInBounds_toArray, List.set_cons_zero, List.set_cons_succ, i64_w, i32_w]
                  rfl
                refine pure_ (i := 15) (N := some 71) (v := ?_) (a' := ?_) #[true, true, true, true, true, true, true, true, true, true, true, true, true, true, true, true, false, false, false, false, false, false, false, false, false, false, false, false, false] rfl rfl (by kernel_rfl) (fun _ _ _ h => h) (Or.inl ⟨by rfl, ?_⟩) ?_ ?_
                rotate_left
                · intro w'
                  go_simp
                  with_reducible rfl
                rotate_left
                · simp only [Act.put, List.setIfInBounds_toArray, List.set_cons_zero, List.set_cons_succ, i64_w, i32_w]
                  rfl
                refine pure_ (i := 16) (N := some 72) (v := ?_) (a' := ?_) #[true, true, true, true, true, true, true, true, true, true, true, true, true, true, true, true, true, false, false, false, false, false, false, false, false, false, false, false, false] rfl rfl (by kernel_rfl) (fun _ _ _ h => h) (Or.inl ⟨by rfl, ?_⟩) ?_ ?_
                rotate_left
                · intro w'
                  go_simp
                  with_reducible rfl
                rotate_left
                · simp only [Act.put, List.setIfInBounds_toArray, List.set_cons_zero, List.set_cons_succ, i64_w, i32_w]
                  rfl
                refine pure_ (i := 17) (N := some 73) (v := ?_) (a' := ?_) #[true, true, true, true, true, true, true, true, true, true, true, true, true, true, true, true, true, true, false, false, false, false, false, false, false, false, false, false, false] rfl rfl (by kernel_rfl) (fun _ _ _ h => h) (Or.inl ⟨by rfl, ?_⟩) ?_ ?_
                rotate_left
                · intro w'
                  go_simp
                  with_reducible rfl
                rotate_left
                · simp only [Act.put, List.setIfInBounds_toArray, List.set_cons_zero, List.set_cons_succ, i64_w, i32_w]
                  rfl
                refine pure_ (i := 18) (N := some 74) (v := ?_) (a' := ?_) #[true, true, true, true, true, true, true, true, true, true, true, true, true, true, true, true, true, true, true, false, false, false, false, false, false, false, false, false, false] rfl rfl (by kernel_rfl) (fun _ _ _ h => h) (Or.inl ⟨by rfl, ?_⟩) ?_ ?_
                rotate_left
                · intro w'
                  go_simp
                  with_reducible rfl
                rotate_left
                · simp only [Act.put, List.setIfInBounds_toArray, List.set_cons_zero, List.set_cons_succ, i64_w, i32_w]
                  rfl
                refine pure_ (i := 19) (N := some 75) (v := ?_) (a' := ?_) #[true, true, true, true, true, true, true, true, true, true, true, true, true, true, true, true, true, true, true, true, false, false, false, false, false, false, false, false, false] rfl rfl (by kernel_rfl) (fun _ _ _ h => h) (Or.inl ⟨by rfl, ?_⟩) ?_ ?_
                rotate_left
                · intro w'
                  go_simp
                  with_reducible rfl
                rotate_left
                · simp only [Act.put, List.setIfInBounds_toArray, List.set_cons_zero, List.set_cons_succ, i64_w, i32_w]
                  rfl
                refine pure_ (i := 20) (N := some 76) (v := ?_) (a' := ?_) #[true, true, true, true, true, true, true, true, true, true, true, true, true, true, true, true, true, true, true, true, true, false, false, false, false, false, false, false, false] rfl rfl (by kernel_rfl) (fun _ _ _ h => h) (Or.inl ⟨by rfl, ?_⟩) ?_ ?_
                rotate_left
                · intro w'
                  go_simp
                  with_reducible rfl
                rotate_left
                · simp only [Act.put, List.setIfInBounds_toArray, List.set_cons_zero, List.set_cons_succ, i64_w, i32_w]
                  rfl
                refine pure_ (i := 22) (N := some 78) (v := ?_) (a' := ?_) #[true, true, true, true, true, true, true, true, true, true, true, true, true, true, true, true, true, true, true, true, true, false, true, false, false, false, false, false, false] rfl rfl (by kernel_rfl) (fun _ _ _ h => h) (Or.inl ⟨by rfl, ?_⟩) ?_ ?_
                rotate_left
                · intro w'
                  go_simp
                  with_reducible rfl
                rotate_left
                · simp only [Act.put, List.setIfInBounds_toArray, List.set_cons_zero, List.set_cons_succ, i64_w, i32_w]
                  rfl
                refine pure_ (i := 23) (N := some 79) (v := ?_) (a' := ?_) #[true, true, true, true, true, true, true, true, true, true, true, true, true, true, true, true, true, true, true, true, true, false, true, true, false, false, false, false, false] rfl rfl (by kernel_rfl) (fun _ _ _ h => h) (Or.inl ⟨by rfl, ?_⟩) ?_ ?_
                rotate_left
                · intro w'
                  go_simp
                  with_reducible rfl
                rotate_left
                · simp only [Act.put, List.setIfInBounds_toArray, List.set_cons_zero, List.set_cons_succ, i64_w, i32_w]
                  rfl
                refine pure_ (i := 24) (N := some 80) (v := ?_) (a' := ?_) #[true, true, true, true, true, true, true, true, true, true, true, true, true, true, true, true, true, true, true, true, true, false, true, true, true, false, false, false, false] rfl rfl (by kernel_rfl) (fun _ _ _ h => h) (Or.inl ⟨by rfl, ?_⟩) ?_ ?_
                rotate_left
                · intro w'
                  go_simp
                  with_reducible rfl
                rotate_left
                · simp only [Act.put, List.setIfInBounds_toArray, List.set_cons_zero, List.set_cons_succ, i64_w, i32_w]
                  rfl
                refine take_ (i := 21) (N := some 77) (v := ?_) (a' := ?_) #[true, true, true, true, true, true, true, true, true, true, true, true, true, true, true, true, true, true, true, true, true, true, true, true, true, false, false, false, false] rfl rfl (by kernel_rfl) (fun _ _ _ h => h) (Or.inl ⟨by rfl, ?_⟩) hHeld ?_ ?_
                rotate_left
                · rintro w' ⟨s0, s1⟩
                  go_simp
                  with_reducible rfl
                rotate_left
                · simp only [Act.put, List.setIfInBounds_toArray, List.set_cons_zero, List.set_cons_succ, i64_w, i32_w]
                  rfl
                refine take_ (i := 25) (N := some 81) (v := ?_) (a' := ?_) #[true, true, true, true, true, true, true, true, true, true, true, true, true, true, true, true, true, true, true, true, true, true, true, true, true, true, false, false, false] rfl rfl (by kernel_rfl) (fun _ _ _ h => h) (Or.inl ⟨by rfl, ?_⟩) hHeld ?_ ?_
                rotate_left
                · rintro w' ⟨s0, s1⟩
                  go_simp
                  with_reducible rfl
                rotate_left
                · simp only [Act.put, List.setIfInBounds_toArray, List.set_cons_zero, List.set_cons_succ, i64_w, i32_w]
                  rfl
                refine one_ (i := 26) (N := some 82) #[true, true, true, true, true, true, true, true, true, true, true, true, true, true, true, true, true, true, true, true, true, true, true, true, true, true, true, false, false] rfl rfl (by kernel_rfl) (by decide) (fun K hK => ?_)
                refine goes_ Try.func28 (by kernel_rfl) rfl #[.slice A4 nr c4, .int .i64 (q : Int)] (by rfl) rfl rfl (by first | (simp only [List.map_toArray, List.map_cons, List.map_nil]; done) | (simp only [List.map_toArray, List.map_cons, List.map_nil]; rfl) | rfl) ?_; with_reducible refine (clear_n A4 c4 nr q r z2 _ HNR.out.symm HZ2.out (Kd.C_below HCR.out HB.out) HC4.out HBYR.out HRL.out).mono ?_; rintro e w9 ⟨rfl, hb⟩; refine ⟨_, rfl, ?_⟩
                have n0_ := Aside0.mk (below_step (by repeat (first | (with_reducible first | exact HB.out | apply below_alloc | apply pw_below_drewN | apply below_drew1) | exact HB.out)) hb); have n1_ := Aside0.mk (Sep.below (by repeat (first | (with_reducible first | exact HS.out | apply sep_alloc | apply sep_drewN | apply sep_drew) | exact HS.out)) hb); clear HB HS; have HB := n0_; have HS := n1_; clear n0_ n1_ hb
                refine hK.out _ _ ⟨Sep.c30 HS.out.p3, Sep.c31 HS.out.p3⟩ (fun hHeld => ?_)
                clear hK K
                refine norm_ (a' := ?_) ?_ ?_
                rotate_left
                · show Act.put _ (some 82) _ = _
                  simp only [Act.put, List.setIfInBounds_toArray, List.set_cons_zero, List.set_cons_succ, i64_w, i32_w]
                  rfl
                refine pure_ (i := 27) (N := some 83) (v := ?_) (a' := ?_) #[true, true, true, true, true, true, true, true, true, true, true, true, true, true, true, true, true, true, true, true, true, true, true, true, true, true, true, true, false] rfl rfl (by kernel_rfl) (fun _ _ _ h => h) (Or.inl ⟨by rfl, ?_⟩) ?_ ?_
                rotate_left
                · intro w'
                  go_simp
                  with_reducible rfl
                rotate_left
                · simp only [Act.put, List.setIfInBounds_toArray, List.set_cons_zero, List.set_cons_succ, i64_w, i32_w]
                  rfl
                refine pure_ (i := 28) (N := some 84) (v := ?_) (a' := ?_) #[true, true, true, true, true, true, true, true, true, true, true, true, true, true, true, true, true, true, true, true, true, true, true, true, true, true, true, true, true] rfl rfl (by kernel_rfl) (fun _ _ _ h => h) (Or.inl ⟨by rfl, ?_⟩) ?_ ?_
                rotate_left
                · intro w'
                  go_simp
                  with_reducible rfl
                rotate_left
                · simp only [Act.put, List.setIfInBounds_toArray, List.set_cons_zero, List.set_cons_succ, i64_w, i32_w]
                  rfl
                refine done_ (by kernel_rfl) ?_
                by_cases hz3 : z2 = true
                · subst hz3
                  go_wp2_with (first
                    | (go_at_call 78; ((with_reducible refine (clip_calls A_ c_ O _ (Kd.R_reads' (Sep.R HS.out)).2.1).mono ?_); rintro e w9 ⟨rfl, hb⟩; have n0_ := Aside0.mk (below_step (by repeat (first | (with_reducible first | exact HB.out | apply below_alloc | apply pw_below_drewN | apply below_drew1) | exact HB.out)) hb); have n1_ := Aside0.mk (Sep.below (by repeat (first | (with_reducible first | exact HS.out | apply sep_alloc | apply sep_drewN | apply sep_drew) | exact HS.out)) hb); clear HB HS; have HB := n0_; have HS := n1_; clear n0_ n1_ hb)))
                  go_ret2
                  have hl := HL2.out
                  rw [if_pos (by refine ⟨HRT.out, ?_, ?_⟩ <;> first | rfl | trivial | simp)] at hl
                  injection hl with h1 h2
                  subst h1 h2
                  exact ⟨A_, l.length, rfl, (Kd.R_reads' (Sep.R HS.out)).2.2, Nat.le_refl _, ⟨_, own_pts HS.out⟩, HB.out⟩
                · have hz4 : z2 = false := by simpa using hz3
                  subst hz4
                  go_wp2
                  go_ret2
                  have hl := HL2.out
                  rw [if_neg (by rintro ⟨_, _, h⟩; cases h)] at hl
                  injection hl with h1 h2
                  subst h1 h2
                  exact ⟨none, 0, rfl, Kd.C_nil _ _, by simp, ptsR_nil _ _, HB.out⟩
              · have hne : ((q8 : Int) != (nr : Int)) = true := bne_iff_ne.2 (fun h => hlen (Int.natCast_inj.1 h))
                have hl := HTK.out
                rw [if_neg (by rintro ⟨_, h, _⟩; rw [← HNR.out] at h; exact hlen (by rw [hq8, hq7]; exact h))] at hl
                injection hl with h1 h2
                subst h1 h2
                clear hrt hx0 hx1 hq7 hq8 hqq hlen
                refine start_ (n := 29) (S := fun w' => w'.cell? ⟨gx, 0, none⟩ = some (.slice A4 nr c4) ∧ w'.cell? ⟨gx, 1, none⟩ = some (.int .i64 (q : Int))) (ds := []) #[false, false, false, false, false, false, false, false, false, false, false, false, false, false, false, false, false, false, false, false, false, false, false, false, false, false, false, false, false] (by kernel_rfl) rfl rfl ⟨Sep.c30 (sep_drew HS.out.p3), Sep.c31 (sep_drew HS.out.p3)⟩ (fun hHeld => ?_)
                have n0_ := Aside0.mk (below_drew HB.out)
                have n1_ := Aside0.mk (sep_drew HS.out)
                clear HB HS
                have HB := n0_
                have HS := n1_
                clear n0_ n1_
                generalize (World.drew wr) = wd_ at HB HS hHeld ⊢
                refine pure_ (i := 0) (N := some 56) (v := ?_) (a' := ?_) #[true, false, false, false, false, false, false, false, false, false, false, false, false, false, false, false, false, false, false, false, false, false, false, false, false, false, false, false, false] rfl rfl (by kernel_rfl) (fun _ _ _ h => h) (Or.inl ⟨by rfl, ?_⟩) ?_ ?_
                rotate_left
                · intro w'
                  go_simp
                  with_reducible rfl
                rotate_left
                · simp only [Act.put, List.setIfInBounds_toArray, List.set_cons_zero, List.set_cons_succ, i64_w, i32_w]
                  rfl
                refine one_ (i := 1) (N := some 57) #[true, true, false, false, false, false, false, false, false, false, false, false, false, false, false, false, false, false, false, false, false, false, false, false, false, false, false, false, false] rfl rfl (by kernel_rfl) (by decide) (fun K hK => ?_)
                refine goes_ Try.func33 (by kernel_rfl) rfl #[.slice A_ O.length c_] (by rfl) rfl rfl (by first | (simp only [List.map_toArray, List.map_cons, List.map_nil]; done) | (simp only [List.map_toArray, List.map_cons, List.map_nil]; rfl) | rfl) ?_; with_reducible refine (right_named A_ c_ O true _ HRT.out (Kd.R_reads' (Sep.R HS.out)).2.2 (Kd.R_reads' (Sep.R HS.out)).2.1 HOL.out).mono ?_; rintro e w8 ⟨rfl, hb⟩; refine ⟨_, rfl, ?_⟩
                have n0_ := Aside0.mk (below_step (by repeat (first | (with_reducible first | exact HB.out | apply below_alloc | apply pw_below_drewN | apply below_drew1) | exact HB.out)) hb); have n1_ := Aside0.mk (Sep.below (by repeat (first | (with_reducible first | exact HS.out | apply sep_alloc | apply sep_drewN | apply sep_drew) | exact HS.out)) hb); clear HB HS; have HB := n0_; have HS := n1_; clear n0_ n1_ hb
                refine hK.out _ _ ⟨Sep.c30 HS.out.p3, Sep.c31 HS.out.p3⟩ (fun hHeld => ?_)
                clear hK K
                refine norm_ (a' := ?_) ?_ ?_
                rotate_left
                · show Act.put _ (some 57) _ = _
                  simp only [Act.put, List.setIfInBounds_toArray, List.set_cons_zero, List.set_cons_succ, i64_w, i32_w]
                  rfl
                refine pure_ (i := 2) (N := some 58) (v := ?_) (a' := ?_) #[true, true, true, false, false, false, false, false, false, false, false, false, false, false, false, false, false, false, false, false, false, false, false, false, false, false, false, false, false] rfl rfl (by kernel_rfl) (fun _ _ _ h => h) (Or.inl ⟨by rfl, ?_⟩) ?_ ?_
                rotate_left
                · intro w'
                  go_simp
                  with_reducible rfl
                rotate_left
                · simp only [Act.put, List.setIfInBounds_toArray, List.set_cons_zero, List.set_cons_succ, i64_w, i32_w]
                  rfl
                refine pure_ (i := 3) (N := some 59) (v := ?_) (a' := ?_) #[true, true, true, true, false, false, false, false, false, false, false, false, false, false, false, false, false, false, false, false, false, false, false, false, false, false, false, false, false] rfl rfl (by kernel_rfl) (fun _ _ _ h => h) (Or.inl ⟨by rfl, ?_⟩) ?_ ?_
                rotate_left
                · intro w'
                  go_simp
                  with_reducible rfl
                rotate_left
                · simp only [Act.put, List.setIfInBounds_toArray, List.set_cons_zero, List.set_cons_succ, i64_w, i32_w]
                  rfl
                refine pure_ (i := 4) (N := some 60) (v := ?_) (a' := ?_) #[true, true, true, true, true, false, false, false, false, false, false, false, false, false, false, false, false, false, false, false, false, false, false, false, false, false, false, false, false] rfl rfl (by kernel_rfl) (fun _ _ _ h => h) (Or.inl ⟨by rfl, ?_⟩) ?_ ?_
                rotate_left
                · intro w'
                  go_simp
                  with_reducible rfl
                rotate_left
                · simp only [Act.put, List.setIfInBounds_toArray, List.set_cons_zero, List.set_cons_succ, i64_w, i32_w]
                  rfl
                refine pure_ (i := 5) (N := some 61) (v := ?_) (a' := ?_) #[true, true, true, true, true, true, false, false, false, false, false, false, false, false, false, false, false, false, false, false, false, false, false, false, false, false, false, false, false] rfl rfl (by kernel_rfl) (fun _ _ _ h => h) (Or.inl ⟨by rfl, ?_⟩) ?_ ?_
                rotate_left
                · intro w'
                  go_simp
                  with_reducible rfl
                rotate_left
                · simp only [Act.put, List.setIfInBounds_toArray, List.set_cons_zero, List.set_cons_succ, i64_w, i32_w]
                  rfl
                refine pure_ (i := 6) (N := some 62) (v := ?_) (a' := ?_) #[true, true, true, true, true, true, true, false, false, false, false, false, false, false, false, false, false, false, false, false, false, false, false, false, false, false, false, false, false] rfl rfl (by kernel_rfl) (fun _ _ _ h => h) (Or.inl ⟨by rfl, ?_⟩) ?_ ?_
                rotate_left
                · intro w'
                  go_simp
                  with_reducible rfl
                rotate_left
                · simp only [Act.put, List.setIfInBounds_toArray, List.set_cons_zero, List.set_cons_succ, i64_w, i32_w]
                  rfl
                refine pure_ (i := 10) (N := some 66) (v := ?_) (a' := ?_) #[true, true, true, true, true, true, true, false, false, false, true, false, false, false, false, false, false, false, false, false, false, false, false, false, false, false, false, false, false] rfl rfl (by kernel_rfl) (fun _ _ _ h => h) (Or.inl ⟨by rfl, ?_⟩) ?_ ?_
                rotate_left
                · intro w'
                  go_simp
                  with_reducible rfl
                rotate_left
                · simp only [Act.put, List.setIfInBounds_toArray, List.set_cons_zero, List.set_cons_succ, i64_w, i32_w]
                  rfl
                refine pure_ (i := 11) (N := some 67) (v := ?_) (a' := ?_) #[true, true, true, true, true, true, true, false, false, false, true, true, false, false, false, false, false, false, false, false, false, false, false, false, false, false, false, false, false] rfl rfl (by kernel_rfl) (fun _ _ _ h => h) (Or.inl ⟨by rfl, ?_⟩) ?_ ?_
                rotate_left
                · intro w'
                  go_simp
                  with_reducible rfl
                rotate_left
                · simp only [Act.put, List.setIfInBounds_toArray, List.set_cons_zero, List.set_cons_succ, i64_w, i32_w]
                  rfl
                refine pure_ (i := 12) (N := some 68) (v := ?_) (a' := ?_) #[true, true, true, true, true, true, true, false, false, false, true, true, true, false, false, false, false, false, false, false, false, false, false, false, false, false, false, false, false] rfl rfl (by kernel_rfl) (fun _ _ _ h => h) (Or.inl ⟨by rfl, ?_⟩) ?_ ?_
                rotate_left
                · intro w'
                  go_simp
                  with_reducible rfl
                rotate_left
                · simp only [Act.put, List.setIfInBounds_toArray, List.set_cons_zero, List.set_cons_succ, i64_w, i32_w]
                  rfl
                refine take_ (i := 7) (N := some 63) (v := ?_) (a' := ?_) #[true, true, true, true, true, true, true, true, false, false, true, true, true, false, false, false, false, false, false, false, false, false, false, false, false, false, false, false, false] rfl rfl (by kernel_rfl) (fun _ _ _ h => h) (Or.inl ⟨by rfl, ?_⟩) hHeld ?_ ?_
                rotate_left
                · rintro w' ⟨s0, s1⟩
                  go_simp
                  with_reducible rfl
                rotate_left
                · simp only [Act.put, List.setIfInBounds_toArray, List.set_cons_zero, List.set_cons_succ, i64_w, i32_w]
                  rfl
                refine pure_ (i := 8) (N := some 64) (v := ?_) (a' := ?_) #[true, true, true, true, true, true, true, true, true, false, true, true, true, false, false, false, false, false, false, false, false, false, false, false, false, false, false, false, false] rfl rfl (by kernel_rfl) (fun _ _ _ h => h) (Or.inl ⟨by rfl, ?_⟩) ?_ ?_
                rotate_left
                · intro w'
                  go_simp
                  with_reducible rfl
                rotate_left
                · simp only [Act.put, List.setIfInBounds_toArray, List.set_cons_zero, List.set_cons_succ, i64_w, i32_w]
                  rfl
                refine pure_ (i := 9) (N := some 65) (v := ?_) (a' := ?_) #[true, true, true, true, true, true, true, true, true, true, true, true, true, false, false, false, false, false, false, false, false, false, false, false, false, false, false, false, false] rfl rfl (by kernel_rfl) (fun _ _ _ h => h) (Or.inl ⟨by rfl, ?_⟩) ?_ ?_
                rotate_left
                · intro w'
                  go_simp
                  with_reducible rfl
                rotate_left
                · simp only [Act.put, List.setIfInBounds_toArray, List.set_cons_zero, List.set_cons_succ, i64_w, i32_w]
                  rfl
                refine take_ (i := 13) (N := some 69) (v := ?_) (a' := ?_) #[true, true, true, true, true, true, true, true, true, true, true, true, true, true, false, false, false, false, false, false, false, false, false, false, false, false, false, false, false] rfl rfl (by kernel_rfl) (fun _ _ _ h => h) (Or.inl ⟨by rfl, ?_⟩) hHeld ?_ ?_
                rotate_left
                · rintro w' ⟨s0, s1⟩
                  go_simp
                  with_reducible rfl
                rotate_left
                · simp only [Act.put, List.setIfInBounds_toArray, List.set_cons_zero, List.set_cons_succ, i64_w, i32_w]
                  rfl
                refine pure_ (i := 14) (N := some 70) (v := ?_) (a' := ?_) #[true, true, true, true, true, true, true, true, true, true, true, true, true, true, true, false, false, false, false, false, false, false, false, false, false, false, false, false, false] rfl rfl (by kernel_rfl) (fun _ _ _ h => h) (Or.inl ⟨by rfl, ?_⟩) ?_ ?_
                rotate_left
                · intro w'
                  go_simp
                  with_reducible rfl
                rotate_left
                · simp only [Act.put, List.setIfInBounds_toArray, List.set_cons_zero, List.set_cons_succ, i64_w, i32_w]
                  rfl
                refine pure_ (i := 15) (N := some 71) (v := ?_) (a' := ?_) #[true, true, true, true, true, true, true, true, true, true, true, true, true, true, true, true, false, false, false, false, false, false, false, false, false, false, false, false, false] rfl rfl (by kernel_rfl) (fun _ _ _ h => h) (Or.inl ⟨by rfl, ?_⟩) ?_ ?_
                rotate_left
                · intro w'
                  go_simp
                  with_reducible rfl
                rotate_left
                · simp only [Act.put, List.setIfInBounds_toArray, List.set_cons_zero, List.set_cons_succ, i64_w, i32_w]
                  rfl
                refine pure_ (i := 16) (N := some 72) (v := ?_) (a' := ?_) #[true, true, true, true, true, true, true, true, true, true, true, true, true, true, true, true, true, false, false, false, false, false, false, false, false, false, false, false, false] rfl rfl (by kernel_rfl) (fun _ _ _ h => h) (Or.inl ⟨by rfl, ?_⟩) ?_ ?_
                rotate_left
                · intro w'
                  go_simp
                  with_reducible rfl
                rotate_left
                · simp only [Act.put, List.setIfInBounds_toArray, List.set_cons_zero, List.set_cons_succ, i64_w, i32_w]
                  rfl
                refine pure_ (i := 17) (N := some 73) (v := ?_) (a' := ?_) #[true, true, true, true, true, true, true, true, true, true, true, true, true, true, true, true, true, true, false, false, false, false, false, false, false, false, false, false, false] rfl rfl (by kernel_rfl) (fun _ _ _ h => h) (Or.inl ⟨by rfl, ?_⟩) ?_ ?_
                rotate_left
                · intro w'
                  go_simp
                  with_reducible rfl
                rotate_left
                · simp only [Act.put, List.setIfInBounds_toArray, List.set_cons_zero, List.set_cons_succ, i64_w, i32_w]
                  rfl
                refine pure_ (i := 18) (N := some 74) (v := undef) (a' := ?_) #[true, true, true, true, true, true, true, true, true, true, true, true, true, true, true, true, true, true, true, false, false, false, false, false, false, false, false, false, false] rfl rfl (by kernel_rfl) (fun _ _ _ h => h) (Or.inr ⟨by rfl, rfl⟩) ?_ ?_
                rotate_left
                · simp only [Act.put, List.setIfInBounds_toArray, List.set_cons_zero, List.set_cons_succ, i64_w, i32_w]
                  rfl
                refine pure_ (i := 19) (N := some 75) (v := undef) (a' := ?_) #[true, true, true, true, true, true, true, true, true, true, true, true, true, true, true, true, true, true, true, true, false, false, false, false, false, false, false, false, false] rfl rfl (by kernel_rfl) (fun _ _ _ h => h) (Or.inr ⟨by rfl, rfl⟩) ?_ ?_
                rotate_left
                · simp only [Act.put, List.setIfInBounds_toArray, List.set_cons_zero, List.set_cons_succ, i64_w, i32_w]
                  rfl
                refine pure_ (i := 20) (N := some 76) (v := undef) (a' := ?_) #[true, true, true, true, true, true, true, true, true, true, true, true, true, true, true, true, true, true, true, true, true, false, false, false, false, false, false, false, false] rfl rfl (by kernel_rfl) (fun _ _ _ h => h) (Or.inr ⟨by rfl, rfl⟩) ?_ ?_
                rotate_left
                · simp only [Act.put, List.setIfInBounds_toArray, List.set_cons_zero, List.set_cons_succ, i64_w, i32_w]
                  rfl
                refine pure_ (i := 21) (N := some 77) (v := undef) (a' := ?_) #[true, true, true, true, true, true, true, true, true, true, true, true, true, true, true, true, true, true, true, true, true, true, false, false, false, false, false, false, false] rfl rfl (by kernel_rfl) (fun _ _ _ h => h) (Or.inr ⟨by rfl, rfl⟩) ?_ ?_
                rotate_left
                · simp only [Act.put, List.setIfInBounds_toArray, List.set_cons_zero, List.set_cons_succ, i64_w, i32_w]
                  rfl
                refine pure_ (i := 22) (N := some 78) (v := undef) (a' := ?_) #[true, true, true, true, true, true, true, true, true, true, true, true, true, true, true, true, true, true, true, true, true, true, true, false, false, false, false, false, false] rfl rfl (by kernel_rfl) (fun _ _ _ h => h) (Or.inr ⟨by rfl, rfl⟩) ?_ ?_
                rotate_left
                · simp only [Act.put, List.setIfInBounds_toArray, List.set_cons_zero, List.set_cons_succ, i64_w, i32_w]
                  rfl
                refine pure_ (i := 23) (N := some 79) (v := undef) (a' := ?_) #[true, true, true, true, true, true, true, true, true, true, true, true, true, true, true, true, true, true, true, true, true, true, true, true, false, false, false, false, false] rfl rfl (by kernel_rfl) (fun _ _ _ h => h) (Or.inr ⟨by rfl, rfl⟩) ?_ ?_
                rotate_left
                · simp only [Act.put, List.setIfInBounds_toArray, List.set_cons_zero, List.set_cons_succ, i64_w, i32_w]
                  rfl
                refine pure_ (i := 24) (N := some 80) (v := undef) (a' := ?_) #[true, true, true, true, true, true, true, true, true, true, true, true, true, true, true, true, true, true, true, true, true, true, true, true, true, false, false, false, false] rfl rfl (by kernel_rfl) (fun _ _ _ h => h) (Or.inr ⟨by rfl, rfl⟩) ?_ ?_
                rotate_left
                · simp only [Act.put, List.setIfInBounds_toArray, List.set_cons_zero, List.set_cons_succ, i64_w, i32_w]
                  rfl
                refine pure_ (i := 25) (N := some 81) (v := undef) (a' := ?_) #[true, true, true, true, true, true, true, true, true, true, true, true, true, true, true, true, true, true, true, true, true, true, true, true, true, true, false, false, false] rfl rfl (by kernel_rfl) (fun _ _ _ h => h) (Or.inr ⟨by rfl, rfl⟩) ?_ ?_
                rotate_left
                · simp only [Act.put, List.setIfInBounds_toArray, List.set_cons_zero, List.set_cons_succ, i64_w, i32_w]
                  rfl
                refine pure_ (i := 26) (N := some 82) (v := undef) (a' := ?_) #[true, true, true, true, true, true, true, true, true, true, true, true, true, true, true, true, true, true, true, true, true, true, true, true, true, true, true, false, false] rfl rfl (by kernel_rfl) (fun _ _ _ h => h) (Or.inr ⟨by rfl, rfl⟩) ?_ ?_
                rotate_left
                · simp only [Act.put, List.setIfInBounds_toArray, List.set_cons_zero, List.set_cons_succ, i64_w, i32_w]
                  rfl
                refine pure_ (i := 27) (N := some 83) (v := undef) (a' := ?_) #[true, true, true, true, true, true, true, true, true, true, true, true, true, true, true, true, true, true, true, true, true, true, true, true, true, true, true, true, false] rfl rfl (by kernel_rfl) (fun _ _ _ h => h) (Or.inr ⟨by rfl, rfl⟩) ?_ ?_
                rotate_left
                · simp only [Act.put, List.setIfInBounds_toArray, List.set_cons_zero, List.set_cons_succ, i64_w, i32_w]
                  rfl
                refine pure_ (i := 28) (N := some 84) (v := ?_) (a' := ?_) #[true, true, true, true, true, true, true, true, true, true, true, true, true, true, true, true, true, true, true, true, true, true, true, true, true, true, true, true, true] rfl rfl (by kernel_rfl) (fun _ _ _ h => h) (Or.inl ⟨by rfl, ?_⟩) ?_ ?_
                rotate_left
                · intro w'
                  go_simp
                  with_reducible rfl
                rotate_left
                · simp only [Act.put, List.setIfInBounds_toArray, List.set_cons_zero, List.set_cons_succ, i64_w, i32_w]
                  rfl
                refine done_ (by kernel_rfl) ?_
                go_wp2
                go_ret2
                exact ⟨none, 0, rfl, Kd.C_nil _ _, by simp, ptsR_nil _ _, HB.out⟩
            · have HRT := Aside0.mk (show rightB O = false by simpa using hrt)
              have hl := HTK.out
              rw [if_neg (by rintro ⟨h, _⟩; exact hrt h)] at hl
              injection hl with h1 h2
              subst h1 h2
              clear hrt hx0 hx1
              refine start_ (n := 29) (S := fun w' => True) (ds := []) #[false, false, false, false, false, false, false, false, false, false, false, false, false, false, false, false, false, false, false, false, false, false, false, false, false, false, false, false, false] (by kernel_rfl) rfl rfl trivial (fun hHeld => ?_)
              have n0_ := Aside0.mk (below_drew HB.out)
              have n1_ := Aside0.mk (sep_drew HS.out)
              clear HB HS
              have HB := n0_
              have HS := n1_
              clear n0_ n1_
              generalize (World.drew wr) = wd_ at HB HS hHeld ⊢
              refine pure_ (i := 0) (N := some 56) (v := ?_) (a' := ?_) #[true, false, false, false, false, false, false, false, false, false, false, false, false, false, false, false, false, false, false, false, false, false, false, false, false, false, false, false, false] rfl rfl (by kernel_rfl) (fun _ _ _ h => h) (Or.inl ⟨by rfl, ?_⟩) ?_ ?_
              rotate_left
              · intro w'
                go_simp
                with_reducible rfl
              rotate_left
              · simp only [Act.put, List.setIfInBounds_toArray, List.set_cons_zero, List.set_cons_succ, i64_w, i32_w]
                rfl
              refine one_ (i := 1) (N := some 57) #[true, true, false, false, false, false, false, false, false, false, false, false, false, false, false, false, false, false, false, false, false, false, false, false, false, false, false, false, false] rfl rfl (by kernel_rfl) (by decide) (fun K hK => ?_)
              refine goes_ Try.func33 (by kernel_rfl) rfl #[.slice A_ O.length c_] (by rfl) rfl rfl (by first | (simp only [List.map_toArray, List.map_cons, List.map_nil]; done) | (simp only [List.map_toArray, List.map_cons, List.map_nil]; rfl) | rfl) ?_; with_reducible refine (right_named A_ c_ O false _ HRT.out (Kd.R_reads' (Sep.R HS.out)).2.2 (Kd.R_reads' (Sep.R HS.out)).2.1 HOL.out).mono ?_; rintro e w8 ⟨rfl, hb⟩; refine ⟨_, rfl, ?_⟩
              have n0_ := Aside0.mk (below_step (by repeat (first | (with_reducible first | exact HB.out | apply below_alloc | apply pw_below_drewN | apply below_drew1) | exact HB.out)) hb); have n1_ := Aside0.mk (Sep.below (by repeat (first | (with_reducible first | exact HS.out | apply sep_alloc | apply sep_drewN | apply sep_drew) | exact HS.out)) hb); clear HB HS; have HB := n0_; have HS := n1_; clear n0_ n1_ hb
              refine hK.out _ _ trivial (fun hHeld => ?_)
              clear hK K
              refine norm_ (a' := ?_) ?_ ?_
              rotate_left
              · show Act.put _ (some 57) _ = _
                simp only [Act.put, List.setIfInBounds_toArray, List.set_cons_zero, List.set_cons_succ, i64_w, i32_w]
                rfl
              refine pure_ (i := 2) (N := some 58) (v := ?_) (a' := ?_) #[true, true, true, false, false, false, false, false, false, false, false, false, false, false, false, false, false, false, false, false, false, false, false, false, false, false, false, false, false] rfl rfl (by kernel_rfl) (fun _ _ _ h => h) (Or.inl ⟨by rfl, ?_⟩) ?_ ?_
              rotate_left
              · intro w'
                go_simp
                with_reducible rfl
              rotate_left
              · simp only [Act.put, List.setIfInBounds_toArray, List.set_cons_zero, List.set_cons_succ, i64_w, i32_w]
                rfl
              refine pure_ (i := 3) (N := some 59) (v := ?_) (a' := ?_) #[true, true, true, true, false, false, false, false, false, false, false, false, false, false, false, false, false, false, false, false, false, false, false, false, false, false, false, false, false] rfl rfl (by kernel_rfl) (fun _ _ _ h => h) (Or.inl ⟨by rfl, ?_⟩) ?_ ?_
              rotate_left
              · intro w'
                go_simp
                with_reducible rfl
              rotate_left
              · simp only [Act.put, List.setIfInBounds_toArray, List.set_cons_zero, List.set_cons_succ, i64_w, i32_w]
                rfl
              refine pure_ (i := 4) (N := some 60) (v := undef) (a' := ?_) #[true, true, true, true, true, false, false, false, false, false, false, false, false, false, false, false, false, false, false, false, false, false, false, false, false, false, false, false, false] rfl rfl (by kernel_rfl) (fun _ _ _ h => h) (Or.inr ⟨by rfl, rfl⟩) ?_ ?_
              rotate_left
              · simp only [Act.put, List.setIfInBounds_toArray, List.set_cons_zero, List.set_cons_succ, i64_w, i32_w]
                rfl
              refine pure_ (i := 5) (N := some 61) (v := undef) (a' := ?_) #[true, true, true, true, true, true, false, false, false, false, false, false, false, false, false, false, false, false, false, false, false, false, false, false, false, false, false, false, false] rfl rfl (by kernel_rfl) (fun _ _ _ h => h) (Or.inr ⟨by rfl, rfl⟩) ?_ ?_
              rotate_left
              · simp only [Act.put, List.setIfInBounds_toArray, List.set_cons_zero, List.set_cons_succ, i64_w, i32_w]
                rfl
              refine pure_ (i := 6) (N := some 62) (v := undef) (a' := ?_) #[true, true, true, true, true, true, true, false, false, false, false, false, false, false, false, false, false, false, false, false, false, false, false, false, false, false, false, false, false] rfl rfl (by kernel_rfl) (fun _ _ _ h => h) (Or.inr ⟨by rfl, rfl⟩) ?_ ?_
              rotate_left
              · simp only [Act.put, List.setIfInBounds_toArray, List.set_cons_zero, List.set_cons_succ, i64_w, i32_w]
                rfl
              refine pure_ (i := 7) (N := some 63) (v := undef) (a' := ?_) #[true, true, true, true, true, true, true, true, false, false, false, false, false, false, false, false, false, false, false, false, false, false, false, false, false, false, false, false, false] rfl rfl (by kernel_rfl) (fun _ _ _ h => h) (Or.inr ⟨by rfl, rfl⟩) ?_ ?_
              rotate_left
              · simp only [Act.put, List.setIfInBounds_toArray, List.set_cons_zero, List.set_cons_succ, i64_w, i32_w]
                rfl
              refine pure_ (i := 8) (N := some 64) (v := undef) (a' := ?_) #[true, true, true, true, true, true, true, true, true, false, false, false, false, false, false, false, false, false, false, false, false, false, false, false, false, false, false, false, false] rfl rfl (by kernel_rfl) (fun _ _ _ h => h) (Or.inr ⟨by rfl, rfl⟩) ?_ ?_
              rotate_left
              · simp only [Act.put, List.setIfInBounds_toArray, List.set_cons_zero, List.set_cons_succ, i64_w, i32_w]
                rfl
              refine pure_ (i := 9) (N := some 65) (v := undef) (a' := ?_) #[true, true, true, true, true, true, true, true, true, true, false, false, false, false, false, false, false, false, false, false, false, false, false, false, false, false, false, false, false] rfl rfl (by kernel_rfl) (fun _ _ _ h => h) (Or.inr ⟨by rfl, rfl⟩) ?_ ?_
              rotate_left
              · simp only [Act.put, List.setIfInBounds_toArray, List.set_cons_zero, List.set_cons_succ, i64_w, i32_w]
                rfl
              refine pure_ (i := 10) (N := some 66) (v := undef) (a' := ?_) #[true, true, true, true, true, true, true, true, true, true, true, false, false, false, false, false, false, false, false, false, false, false, false, false, false, false, false, false, false] rfl rfl (by kernel_rfl) (fun _ _ _ h => h) (Or.inr ⟨by rfl, rfl⟩) ?_ ?_
              rotate_left
              · simp only [Act.put, List.setIfInBounds_toArray, List.set_cons_zero, List.set_cons_succ, i64_w, i32_w]
                rfl
              refine pure_ (i := 11) (N := some 67) (v := undef) (a' := ?_) #[true, true, true, true, true, true, true, true, true, true, true, true, false, false, false, false, false, false, false, false, false, false, false, false, false, false, false, false, false] rfl rfl (by kernel_rfl) (fun _ _ _ h => h) (Or.inr ⟨by rfl, rfl⟩) ?_ ?_
              rotate_left
              · simp only [Act.put, List.setIfInBounds_toArray, List.set_cons_zero, List.set_cons_succ, i64_w, i32_w]
                rfl
              refine pure_ (i := 12) (N := some 68) (v := undef) (a' := ?_) #[true, true, true, true, true, true, true, true, true, true, true, true, true, false, false, false, false, false, false, false, false, false, false, false, false, false, false, false, false] rfl rfl (by kernel_rfl) (fun _ _ _ h => h) (Or.inr ⟨by rfl, rfl⟩) ?_ ?_
              rotate_left
              · simp only [Act.put, List.setIfInBounds_toArray, List.set_cons_zero, List.set_cons_succ, i64_w, i32_w]
                rfl
              refine pure_ (i := 13) (N := some 69) (v := undef) (a' := ?_) #[true, true, true, true, true, true, true, true, true, true, true, true, true, true, false, false, false, false, false, false, false, false, false, false, false, false, false, false, false] rfl rfl (by kernel_rfl) (fun _ _ _ h => h) (Or.inr ⟨by rfl, rfl⟩) ?_ ?_
              rotate_left
              · simp only [Act.put, List.setIfInBounds_toArray, List.set_cons_zero, List.set_cons_succ, i64_w, i32_w]
                rfl
              refine pure_ (i := 14) (N := some 70) (v := undef) (a' := ?_) #[true, true, true, true, true, true, true, true, true, true, true, true, true, true, true, false, false, false, false, false, false, false, false, false, false, false, false, false, false] rfl rfl (by kernel_rfl) (fun _ _ _ h => h) (Or.inr ⟨by rfl, rfl⟩) ?_ ?_
              rotate_left
              · simp only [Act.put, List.setIfInBounds_toArray, List.set_cons_zero, List.set_cons_succ, i64_w, i32_w]
                rfl
              refine pure_ (i := 15) (N := some 71) (v := undef) (a' := ?_) #[true, true, true, true, true, true, true, true, true, true, true, true, true, true, true, true, false, false, false, false, false, false, false, false, false, false, false, false, false] rfl rfl (by kernel_rfl) (fun _ _ _ h => h) (Or.inr ⟨by rfl, rfl⟩) ?_ ?_
              rotate_left
              · simp only [Act.put, List.setIfInBounds_toArray, List.set_cons_zero, List.set_cons_succ, i64_w, i32_w]
                rfl
              refine pure_ (i := 16) (N := some 72) (v := ?_) (a' := ?_) #[true, true, true, true, true, true, true, true, true, true, true, true, true, true, true, true, true, false, false, false, false, false, false, false, false, false, false, false, false] rfl rfl (by kernel_rfl) (fun _ _ _ h => h) (Or.inl ⟨by rfl, ?_⟩) ?_ ?_
              rotate_left
              · intro w'
                go_simp
                with_reducible rfl
              rotate_left
              · simp only [Act.put, List.setIfInBounds_toArray, List.set_cons_zero, List.set_cons_succ, i64_w, i32_w]
                rfl
              refine pure_ (i := 17) (N := some 73) (v := ?_) (a' := ?_) #[true, true, true, true, true, true, true, true, true, true, true, true, true, true, true, true, true, true, false, false, false, false, false, false, false, false, false, false, false] rfl rfl (by kernel_rfl) (fun _ _ _ h => h) (Or.inl ⟨by rfl, ?_⟩) ?_ ?_
              rotate_left
              · intro w'
                go_simp
                with_reducible rfl
              rotate_left
              · simp only [Act.put, List.setIfInBounds_toArray, List.set_cons_zero, List.set_cons_succ, i64_w, i32_w]
                rfl
              refine pure_ (i := 18) (N := some 74) (v := undef) (a' := ?_) #[true, true, true, true, true, true, true, true, true, true, true, true, true, true, true, true, true, true, true, false, false, false, false, false, false, false, false, false, false] rfl rfl (by kernel_rfl) (fun _ _ _ h => h) (Or.inr ⟨by rfl, rfl⟩) ?_ ?_
              rotate_left
              · simp only [Act.put, List.setIfInBounds_toArray, List.set_cons_zero, List.set_cons_succ, i64_w, i32_w]
                rfl
              refine pure_ (i := 19) (N := some 75) (v := undef) (a' := ?_) #[true, true, true, true, true, true, true, true, true, true, true, true, true, true, true, true, true, true, true, true, false, false, false, false, false, false, false, false, false] rfl rfl (by kernel_rfl) (fun _ _ _ h => h) (Or.inr ⟨by rfl, rfl⟩) ?_ ?_
              rotate_left
              · simp only [Act.put, List.setIfInBounds_toArray, List.set_cons_zero, List.set_cons_succ, i64_w, i32_w]
                rfl
              refine pure_ (i := 20) (N := some 76) (v := undef) (a' := ?_) #[true, true, true, true, true, true, true, true, true, true, true, true, true, true, true, true, true, true, true, true, true, false, false, false, false, false, false, false, false] rfl rfl (by kernel_rfl) (fun _ _ _ h => h) (Or.inr ⟨by rfl, rfl⟩) ?_ ?_
              rotate_left
              · simp only [Act.put, List.setIfInBounds_toArray, List.set_cons_zero, List.set_cons_succ, i64_w, i32_w]
                rfl
              refine pure_ (i := 21) (N := some 77) (v := undef) (a' := ?_) #[true, true, true, true, true, true, true, true, true, true, true, true, true, true, true, true, true, true, true, true, true, true, false, false, false, false, false, false, false] rfl rfl (by kernel_rfl) (fun _ _ _ h => h) (Or.inr ⟨by rfl, rfl⟩) ?_ ?_
              rotate_left
              · simp only [Act.put, List.setIfInBounds_toArray, List.set_cons_zero, List.set_cons_succ, i64_w, i32_w]
                rfl
              refine pure_ (i := 22) (N := some 78) (v := undef) (a' := ?_) #[true, true, true, true, true, true, true, true, true, true, true, true, true, true, true, true, true, true, true, true, true, true, true, false, false, false, false, false, false] rfl rfl (by kernel_rfl) (fun _ _ _ h => h) (Or.inr ⟨by rfl, rfl⟩) ?_ ?_
              rotate_left
              · simp only [Act.put, List.setIfInBounds_toArray, List.set_cons_zero, List.set_cons_succ, i64_w, i32_w]
                rfl
              refine pure_ (i := 23) (N := some 79) (v := undef) (a' := ?_) #[true, true, true, true, true, true, true, true, true, true, true, true, true, true, true, true, true, true, true, true, true, true, true, true, false, false, false, false, false] rfl rfl (by kernel_rfl) (fun _ _ _ h => h) (Or.inr ⟨by rfl, rfl⟩) ?_ ?_
              rotate_left
              · simp only [Act.put, List.setIfInBounds_toArray, List.set_cons_zero, List.set_cons_succ, i64_w, i32_w]
                rfl
              refine pure_ (i := 24) (N := some 80) (v := undef) (a' := ?_) #[true, true, true, true, true, true, true, true, true, true, true, true, true, true, true, true, true, true, true, true, true, true, true, true, true, false, false, false, false] rfl rfl (by kernel_rfl) (fun _ _ _ h => h) (Or.inr ⟨by rfl, rfl⟩) ?_ ?_
              rotate_left
              · simp only [Act.put, List.setIfInBounds_toArray, List.set_cons_zero, List.set_cons_succ, i64_w, i32_w]
                rfl
              refine pure_ (i := 25) (N := some 81) (v := undef) (a' := ?_) #[true, true, true, true, true, true, true, true, true, true, true, true, true, true, true, true, true, true, true, true, true, true, true, true, true, true, false, false, false] rfl rfl (by kernel_rfl) (fun _ _ _ h => h) (Or.inr ⟨by rfl, rfl⟩) ?_ ?_
              rotate_left
              · simp only [Act.put, List.setIfInBounds_toArray, List.set_cons_zero, List.set_cons_succ, i64_w, i32_w]
                rfl
              refine pure_ (i := 26) (N := some 82) (v := undef) (a' := ?_) #[true, true, true, true, true, true, true, true, true, true, true, true, true, true, true, true, true, true, true, true, true, true, true, true, true, true, true, false, false] rfl rfl (by kernel_rfl) (fun _ _ _ h => h) (Or.inr ⟨by rfl, rfl⟩) ?_ ?_
              rotate_left
              · simp only [Act.put, List.setIfInBounds_toArray, List.set_cons_zero, List.set_cons_succ, i64_w, i32_w]
                rfl
              refine pure_ (i := 27) (N := some 83) (v := undef) (a' := ?_) #[true, true, true, true, true, true, true, true, true, true, true, true, true, true, true, true, true, true, true, true, true, true, true, true, true, true, true, true, false] rfl rfl (by kernel_rfl) (fun _ _ _ h => h) (Or.inr ⟨by rfl, rfl⟩) ?_ ?_
              rotate_left
              · simp only [Act.put, List.setIfInBounds_toArray, List.set_cons_zero, List.set_cons_succ, i64_w, i32_w]
                rfl
              refine pure_ (i := 28) (N := some 84) (v := ?_) (a' := ?_) #[true, true, true, true, true, true, true, true, true, true, true, true, true, true, true, true, true, true, true, true, true, true, true, true, true, true, true, true, true] rfl rfl (by kernel_rfl) (fun _ _ _ h => h) (Or.inl ⟨by rfl, ?_⟩) ?_ ?_
              rotate_left
              · intro w'
                go_simp
                with_reducible rfl
              rotate_left
              · simp only [Act.put, List.setIfInBounds_toArray, List.set_cons_zero, List.set_cons_succ, i64_w, i32_w]
                rfl
              refine done_ (by kernel_rfl) ?_
              go_wp2
              go_ret2
              exact ⟨none, 0, rfl, Kd.C_nil _ _, by simp, ptsR_nil _ _, HB.out⟩)
  · have HNO := Aside0.mk (show ∀ m r, m < 2 ^ 64 → b ≠ varint m ++ r from fun m r hm he => hex ⟨m, r, hm, he⟩)
    clear hex
    go_enter Try.func41, Try.ntmps41
    go_wp2_with (first
      | (go_at_call 73; ((with_reducible refine (onew_calls A0 c0 b _ (Kd.C_below HR.out HB.out) HC.out HL.out).mono ?_); rintro e w1 ⟨g, F1, A1, c1, rfl, hs_, hb⟩; have n1_ := Aside0.mk (Sep.join (by repeat (first | (with_reducible first | exact HS.out | apply sep_alloc | apply sep_drewN | apply sep_drew) | exact HS.out)) hb (below_size (by repeat (first | (with_reducible first | exact HB.out | apply below_alloc | apply pw_below_drewN | apply below_drew1) | exact HB.out))) hs_); have n0_ := Aside0.mk (below_step (by repeat (first | (with_reducible first | exact HB.out | apply below_alloc | apply pw_below_drewN | apply below_drew1) | exact HB.out)) hb); clear HB HS hs_ hb; have HB := n0_; have HS := n1_; clear n0_ n1_))
      | (go_at_call 74; ((with_reducible refine (num_no g A1 c1 b HNO.out false w _ HB.out HS.out.own (Kd.R_reads' (Sep.R HS.out.drop)).2.2 (Kd.R_reads' (Sep.R HS.out.drop)).2.1 HBY.out HL.out).mono ?_); rintro e w2 ⟨rfl, ht⟩; obtain ⟨F_, hs_⟩ := Turned.sep ht (HS.out) rfl; have n0_ := Aside0.mk (Turned.below ht); clear HB HS ht; have HB := n0_; have HS := Aside0.mk hs_; clear n0_ hs_))
      | (go_at_call 75; ((with_reducible refine (left_calls w.heap.size g none 0 0 true _ HS.out.own).mono ?_); rintro e w3 ⟨rfl, hb⟩; have n0_ := Aside0.mk (below_step (by repeat (first | (with_reducible first | exact HB.out | apply below_alloc | apply pw_below_drewN | apply below_drew1) | exact HB.out)) hb); have n1_ := Aside0.mk (Sep.below (by repeat (first | (with_reducible first | exact HS.out | apply sep_alloc | apply sep_drewN | apply sep_drew) | exact HS.out)) hb); clear HB HS; have HB := n0_; have HS := n1_; clear n0_ n1_ hb))
      | (go_at_call 76; ((with_reducible refine (end_named w.heap.size g none 0 0 true 6 _ (by simp) HS.out.own).mono ?_); rintro e w4 ⟨rfl, hb⟩; have n0_ := Aside0.mk (below_step (by repeat (first | (with_reducible first | exact HB.out | apply below_alloc | apply pw_below_drewN | apply below_drew1) | exact HB.out)) hb); have n1_ := Aside0.mk (Sep.below (by repeat (first | (with_reducible first | exact HS.out | apply sep_alloc | apply sep_drewN | apply sep_drew) | exact HS.out)) hb); clear HB HS; have HB := n0_; have HS := n1_; clear n0_ n1_ hb)))
    go_ret2
    have hl := HLZ.out
    rw [take_none HNO.out] at hl
    injection hl with h1 h2
    subst h1 h2
    exact ⟨none, 0, rfl, Kd.C_nil _ _, by simp, ptsR_nil _ _, HB.out⟩
end Go.Proofs.Ythkpnnbjcendcaa.Sc
end
section
/- Texts taken: octs' and the reference's, walked. -/
set_option linter.unusedVariables false
set_option linter.unusedSimpArgs false
open Go.RowKit Go.Proofs.Ythkpnnbjcendcaa.X Go.Proofs.Ythkpnnbjcendcaa.Pl Go.Proofs.Ythkpnnbjcendcaa.Sp Go.Proofs.Ythkpnnbjcendcaa.Pure Go.Proofs.YthkpnnbjcendcaaW.PrintWords Go.Proofs.YthkpnnbjcendcaaW.PrintLast Go.Proofs.YthkpnnbjcendcaaW.PrintMore
namespace Go.Proofs.Ythkpnnbjcendcaa.Sc
set_option maxHeartbeats 8000000 in
set_option maxRecDepth 100000 in
theorem otx_yes (m : Nat) (r t u : List Int) (hm : m < 2 ^ 64) (g : Nat) (A : Option Addr) (c : Nat) (b : List Int) (hb : b = varint m ++ r) (hmr : m ≤ r.length) (ht : t = r.take m) (hu : u = r.drop m) (bad : Bool) (w0 w : World) (hB : Below w0.heap.size w0 w) (hO : Own w0.heap.size w (otR g (.slice A b.length c) bad)) (hst : ∀ w2, Stay w w2 (fun k => k = g) → Kd.C (Kd.int .u8) w2 A b.length b) (hc : b.length ≤ c) (hby : Byt b) (hl : b.length < 1000000) :
    Calls Try.prog 93 #[.pointer (some ⟨g, 0, none⟩)] w fun e w' => ∃ A' c', e = .returned (.string (strOfNums t)) ∧ u.length ≤ c' ∧ (∀ w2, Kd.C (Kd.int .u8) w2 A b.length b → Kd.C (Kd.int .u8) w2 A' u.length u) ∧ Turned w0 w w' (fun k => k = g) (fun _ => otR g (.slice A' u.length c') bad) := by
  have HB0 := Aside0.mk hB
  have HB := Aside0.mk hB
  have HS := Aside0.mk (Sep.start hO)
  have HST := Aside0.mk hst
  have HR := Aside0.mk (hst w (fun _ _ _ => rfl))
  have HC := Aside0.mk hc
  have HBY := Aside0.mk hby
  have HL := Aside0.mk hl
  have HM := Aside0.mk hm
  have HBR := Aside0.mk hb
  obtain ⟨nr, hnr⟩ : ∃ n, n = r.length := ⟨_, rfl⟩
  have HNR := Aside0.mk hnr
  rw [← hnr] at hmr
  have hnl : nr < 1000000 := by rw [hb, List.length_append, ← hnr] at hl; omega
  have q1 : decide ((nr : Int) < (m : Int)) = false := decide_eq_false (by omega)
  have q1n : decide (nr < m) = false := decide_eq_false (by omega)
  have hcw : IntKind.u64.wrap (nr : Int) = (nr : Int) := w_u64 (by omega) (by omega)
  have k1 := eq_true hmr
  have k1i := eq_true (show (m : Int) ≤ (nr : Int) by omega)
  have k2i := eq_true (show 0 ≤ (m : Int) by omega)
  obtain ⟨i05, hi05, _, hsz5, _⟩ := info_parts info5
  have HTO := Aside0.mk (fun (A : Option Addr) (c : Nat) (hc : nr ≤ c) => cut_to (P := Try.prog) 24 5 .u64 Try.underlying24 hi05 A nr c (m : Int) (by omega) (by omega) hc)
  have HFR := Aside0.mk (fun (A : Option Addr) (c : Nat) => cut_from (P := Try.prog) 24 5 .u64 Try.underlying24 hi05 1 hsz5 A nr c (m : Int) (by omega) (by omega))
  obtain ⟨nu, hnu⟩ : ∃ n, n = u.length := ⟨_, rfl⟩
  have hun : nr - m = nu := by rw [hnu, hu, List.length_drop, hnr]
  have HUN := Aside0.mk hun
  have htl : t.length = m := by rw [ht, List.length_take]; omega
  have HTC := Aside0.mk (show ∀ (w2 : World) (A2 : Option Addr), Kd.C (Kd.int .u8) w2 A2 r.length r → Kd.C (Kd.int .u8) w2 A2 m t from fun w2 A2 h => by rw [← htl, ht]; exact C_take' h m)
  have HUC := Aside0.mk (show ∀ (w2 : World) (A2 : Option Addr) (c2 : Nat), r.length ≤ c2 → Kd.C (Kd.int .u8) w2 A2 r.length r → Kd.C (Kd.int .u8) w2 (if c2 = m then A2 else A2.map (fun x => x.add (m * 1))) nu u from fun w2 A2 c2 hcc h => by rw [hnu, hu]; exact Kd.C_drop (m := m) h (by omega) hcc)
  obtain ⟨s, hs⟩ : ∃ s, s = strOfNums t := ⟨_, rfl⟩
  have HS_ := Aside0.mk hs
  rw [← hs, ← hnu]
  have hc0 := Sep.c20 HS.out
  clear hB hO hst hc hby hl hm hb hmr ht hu hnr hnl hi05 hsz5 hun htl hs hnu hc0
  go_enter Try.func93, Try.ntmps93
  go_wp2_with (first
    | (go_at_call 74; ((with_reducible refine (num_yes m r HM.out g A c b HBR.out bad w0 _ HB.out HS.out.own HR.out HC.out HBY.out HL.out).mono ?_); rintro e w2 ⟨A2, c2, rfl, hlc, hcd, ht⟩; rw [← HNR.out] at ht; have HLC := Aside0.mk hlc; have HCD := Aside0.mk hcd; have HCB := Aside0.mk (Turned.kept ht); clear hlc hcd; obtain ⟨F_, hs_⟩ := Turned.sep ht (HS.out) rfl; have n0_ := Aside0.mk (Turned.below ht); clear HB HS ht; have HB := n0_; have HS := Aside0.mk hs_; clear n0_ hs_; have hc0 := Sep.c20 HS.out; have hf0 := Sep.free HS.out 0; have hto := HTO.out A2 c2 (by rw [HNR.out]; exact HLC.out); have hfr := HFR.out A2 c2; rw [Int.toNat_natCast] at hto hfr; rw [HUN.out] at hfr; obtain ⟨A4, hA4⟩ : ∃ A, A = (if c2 = m then A2 else A2.map (fun x => x.add (m * 1))) := ⟨_, rfl⟩; rw [← hA4] at hfr; have HA4 := Aside0.mk hA4; obtain ⟨c4, hc4⟩ : ∃ c4, c4 = c2 - m := ⟨_, rfl⟩; rw [← hc4] at hfr; have HC4 := Aside0.mk (show nu ≤ c4 by have := HUN.out; have := HLC.out; have := HNR.out; omega); have hcv := Kd.C_string (P := Try.prog) (c := c2) Try.underlying24 Try.underlying5 Try.underlying9 (HTC.out _ A2 (HCD.out _ (HST.out _ HCB.out))); rw [← HS_.out] at hcv; clear hA4 hc4)))
  go_ret
  exact ⟨A4, c4, by first | rfl | simp, HC4.out, fun w2 h2 => by rw [HA4.out]; exact HUC.out w2 A2 c2 HLC.out (HCD.out w2 h2), Turned.of_sep (mk := fun _ => otR g (.slice A4 nu c4) bad) (F' := fun _ => True) (HS.out.s20 _) HB0.out (below_set HB.out HS.out.ge)⟩
set_option maxHeartbeats 8000000 in
set_option maxRecDepth 100000 in
theorem otx_no (g : Nat) (A : Option Addr) (c : Nat) (b : List Int) (hno : ∀ (m : Nat) (r : List Int), m < 2 ^ 64 → b = varint m ++ r → r.length < m) (bad : Bool) (w0 w : World) (hB : Below w0.heap.size w0 w) (hO : Own w0.heap.size w (otR g (.slice A b.length c) bad)) (hr : Kd.C (Kd.int .u8) w A b.length b) (hc : b.length ≤ c) (hby : Byt b) (hl : b.length < 1000000) :
    Calls Try.prog 93 #[.pointer (some ⟨g, 0, none⟩)] w fun e w' => e = .returned (.string (strOfNums [])) ∧ Turned w0 w w' (fun k => k = g) (fun _ => otR g (.slice none 0 0) true) := by
  have HB0 := Aside0.mk hB
  have HB := Aside0.mk hB
  have HS := Aside0.mk (Sep.start hO)
  have HR := Aside0.mk hr
  have HC := Aside0.mk hc
  have HBY := Aside0.mk hby
  have HL := Aside0.mk hl
  by_cases hex : ∃ (m : Nat) (r : List Int), m < 2 ^ 64 ∧ b = varint m ++ r
  · obtain ⟨m, r, hm, hb⟩ := hex
    have hmr := hno m r hm hb
    have HM := Aside0.mk hm
    have HBR := Aside0.mk hb
    obtain ⟨nr, hnr⟩ : ∃ n, n = r.length := ⟨_, rfl⟩
    have HNR := Aside0.mk hnr
    rw [← hnr] at hmr
    have q1 : decide ((nr : Int) < (m : Int)) = true := decide_eq_true (by omega)
    have q1n : decide (nr < m) = true := decide_eq_true hmr
    have hcw : IntKind.u64.wrap (nr : Int) = (nr : Int) := w_u64 (by omega) (by omega)
    clear hB hO hr hc hby hl hm hb hmr hnr hno
    go_enter Try.func93, Try.ntmps93
    go_wp2_with (first
      | (go_at_call 74; ((with_reducible refine (num_yes m r HM.out g A c b HBR.out bad w0 _ HB.out HS.out.own HR.out HC.out HBY.out HL.out).mono ?_); rintro e w2 ⟨A2, c2, rfl, hlc, hcd, ht⟩; rw [← HNR.out] at ht; clear hlc hcd; obtain ⟨F_, hs_⟩ := Turned.sep ht (HS.out) rfl; have n0_ := Aside0.mk (Turned.below ht); clear HB HS ht; have HB := n0_; have HS := Aside0.mk hs_; clear n0_ hs_; have hc0 := Sep.c20 HS.out))
      | (go_at_call 100; ((with_reducible refine (ofail_calls g _ bad w0 _ HB.out HS.out.own).mono ?_); rintro e w8 ⟨rfl, ht⟩; clear hc0; obtain ⟨F_, hs_⟩ := Turned.sep ht (HS.out) rfl; have n0_ := Aside0.mk (Turned.below ht); clear HB HS ht; have HB := n0_; have HS := Aside0.mk hs_; clear n0_ hs_)))
    go_ret
    exact ⟨by first | rfl | simp, Turned.of_sep (mk := fun _ => otR g (.slice none 0 0) true) (F' := fun _ => True) HS.out HB0.out HB.out⟩
  · have HNO := Aside0.mk (show ∀ m r, m < 2 ^ 64 → b ≠ varint m ++ r from fun m r hm he => hex ⟨m, r, hm, he⟩)
    have hcv : ∀ W : World, (convert 24 9 (.slice none 0 0)).run Try.prog W = .ok (.string (strOfNums [])) W := fun W => Kd.C_string (P := Try.prog) (w := W) (n := 0) (c := 0) Try.underlying24 Try.underlying5 Try.underlying9 (Kd.C_nil (Kd.int .u8) W)
    obtain ⟨i05, hi05, _, hsz5, _⟩ := info_parts info5
    have hto := cut_to (P := Try.prog) 24 5 .u64 Try.underlying24 hi05 none 0 0 0 (by omega) (by omega) (by omega)
    have hfr := cut_from (P := Try.prog) 24 5 .u64 Try.underlying24 hi05 1 hsz5 none 0 0 0 (by omega) (by omega)
    have hto2 : ∀ W : World, (Instr.slice 24 (.slice none 0 0) none (some (.int .u64 0)) none).run Try.prog W = .ok (.slice none 0 0) W := fun W => by have := hto W; simpa using this
    have hfr2 : ∀ W : World, (Instr.slice 24 (.slice none 0 0) (some (.int .u64 0)) none none).run Try.prog W = .ok (.slice none 0 0) W := fun W => by have := hfr W; simpa using this
    clear hB hO hr hc hby hl hex hno hi05 hsz5 hto hfr
    go_enter Try.func93, Try.ntmps93
    go_wp2_with (first
      | (go_at_call 74; ((with_reducible refine (num_no g A c b HNO.out bad w0 _ HB.out HS.out.own HR.out HC.out HBY.out HL.out).mono ?_); rintro e w2 ⟨rfl, ht⟩; obtain ⟨F_, hs_⟩ := Turned.sep ht (HS.out) rfl; have n0_ := Aside0.mk (Turned.below ht); clear HB HS ht; have HB := n0_; have HS := Aside0.mk hs_; clear n0_ hs_; have hc0 := Sep.c20 HS.out; have hf0 := Sep.free HS.out 0)))
    go_ret
    exact ⟨by first | rfl | simp, Turned.of_sep (mk := fun _ => otR g (.slice none 0 0) true) (F' := fun _ => True) (HS.out.s20 _) HB0.out (below_set HB.out HS.out.ge)⟩
end Go.Proofs.Ythkpnnbjcendcaa.Sc
end
section
/- Rows of elements that lead to rows of their own, in the separation style; appends and literals in a region that draws its order. -/
set_option linter.unusedVariables false
namespace Go.Proofs.Ythkpnnbjcendcaa.Sp
open Go.RowKit Go.Proofs.YthkpnnbjcendcaaW.PrintWords Go.Proofs.YthkpnnbjcendcaaW.PrintLast Go.Proofs.YthkpnnbjcendcaaW.PrintMore
/-- A row of one's own, and what its elements lead to. -/
def rowN {α : Type} (F : Nat → Prop) (d : Kd α) (e base : Nat) (v : Value) (xs : List α) : Res := ⟨F, fun w => Kd.N d e w base F v xs⟩
section
variable {α : Type} {d : Kd α} {e base : Nat} {v : Value} {xs : List α} {w w' : World} {F ok : Nat → Prop} {a b : Res} {rs : List Res}
theorem Own.rowN (h : Kd.N d e w base ok v xs) (hlo : ∀ k, ok k → base ≤ k) : ∃ F, Own base w (rowN F d e base v xs) ∧ ∀ k, F k → ok k :=
  ⟨fun k => ok k ∧ k < w.heap.size, ⟨fun k hk => hlo k hk.1, fun k hk => hk.2, fun w' hw => Kd.N_step (Kd.N_bound h) (fun k hk _ => hw k hk)⟩, fun k hk => hk.1⟩
theorem Sep.N (h : Sep base w (Sp.rowN F d e base v xs :: rs)) : Kd.N d e w base F v xs := h.now
theorem Sep.nilN (h : Sep base w rs) (d : Kd α) (e : Nat) : Sep base w (Sp.rowN (fun _ => False) d e base (.slice none 0 0) [] :: rs) :=
  ⟨⟨fun _ hk => hk.elim, fun _ hk => hk.elim, fun w' _ => Kd.N_nil _ _ _ _ _⟩, fun _ _ _ hk => hk.elim, h⟩
/-- Two made one. -/
theorem Sep.both (h : Sep base w (a :: b :: rs)) : Sep base w (⟨fun k => a.foot k ∨ b.foot k, fun _ => True⟩ :: rs) :=
  ⟨⟨fun k hk => hk.elim (h.1.lo k) (h.2.2.1.lo k), fun k hk => hk.elim (h.1.hi k) (h.2.2.1.hi k), fun _ _ => trivial⟩,
    fun q hq k hk => hk.elim (h.2.1 q (List.mem_cons_of_mem _ hq) k) (h.2.2.2.1 q hq k), h.2.2.2.2⟩
end
section
variable {P : Program} {ops : Array Oper} {rest : List Oper} {o : Oper} {a : Act} {Q : Exit → Act → World → Prop} {Kc : Act → World → Prop} {α : Type}
/-- append(v, x), behind 'at_builtin': x's cells are cs, and lead to G. -/
theorem wp_appendN (d : Kd α) {w0 W : World} (hgd : o.guard = none) (s x : Operand) (t e : TypeId) (z : Value) (bytes : Nat)
    (ho : o.op = .call { callee := .builtin .append, args := #[s, x], argTypes := #[t, t] })
    (ht : P.underlying t = some (.slice e)) (hinfo : (P.info? e).map (fun i => (i.zero, i.size, i.bytes)) = some (some z, d.sz, bytes)) (hz : z.cells.size = d.sz) (hs0 : 0 < d.sz) (hb0 : 0 < bytes)
    {v : Value} {xs : List α} (p : α) (cs : List Value) {F : Nat → Prop} {r : Res} {rs : List Res} (HS : Sep w0.heap.size W (rowN F d e w0.heap.size v xs :: r :: rs)) (hs : a.eval s = v) (hx : a.eval x = .slice (some ⟨W.heap.size, 0, none⟩) 1 1) (hp : Kd.FK d W r.foot p cs)
    (HB : Below w0.heap.size w0 W) (hl : (xs.length + 1) * bytes ≤ 140737488355328)
    (h : ∀ v1 w1 F', Sep w0.heap.size w1 (rowN F' d e w0.heap.size v1 (xs ++ [p]) :: rs) → Below w0.heap.size w0 w1 → wpList P ops Q rest (a.put o.dst v1) w1) :
    wpList P ops Q (o :: rest) a (W.alloc (.cells cs.toArray e)) := by
  refine Kd.N_append d (w0 := w0) w0.heap.size hgd s x t e z bytes ho ht hinfo hz hs0 hb0 v xs p cs (fun k => (F k ∨ r.foot k) ∨ W.heap.size ≤ k) r.foot hs hx hp (fun k hk => ⟨.inl (.inr hk), fun he => HS.2.1 r List.mem_cons_self k (HS.N.1 k he.symm) hk⟩) (fun _ hk => .inr hk) (Kd.N_mono HS.N (fun _ hk => .inl (.inl hk))) HB HB.size hl ?_
  intro v1 w1 hr hb hg _
  have h2 := HS.both
  obtain ⟨F', h3, h4⟩ := Own.rowN hr (fun k hk => hk.elim (h2.1.lo k) (fun h => Nat.le_trans HB.size h))
  exact h v1 w1 F' (h2.call (Stay.of_kept (Kept.of_grown hg (Kept.refl W (fun k => F k ∨ r.foot k)) (fun k e => .inl (.inl (HS.N.1 k e))))) h3 h4) hb
/-- append(v, ys...) in a region that draws its order. -/
theorem wp_append_row_step (d : Kd α) {w0 W : World} (hw : Region.wanted o (yielded ops a.tmps) = true) (s x : Operand) (t e : TypeId) (z : Value) (bytes : Nat)
    (ho : o.op = .call { callee := .builtin .append, args := #[s, x], argTypes := #[t, t] })
    (ht : P.underlying t = some (.slice e)) (hinfo : (P.info? e).map (fun i => (i.zero, i.size, i.bytes)) = some (some z, d.sz, bytes)) (hz : z.cells.size = d.sz) (hs0 : 0 < d.sz) (hb0 : 0 < bytes)
    {v : Value} {xs : List α} (ys : List α) (A : Option Addr) (m c : Nat) {F : Nat → Prop} {rs : List Res} (HS : Sep w0.heap.size W (row F d e w0.heap.size v xs :: rs)) (HR : d.C W A m ys) (hKM : ∀ x cs, d.K W x cs → d.M W w0.heap.size (fun _ => False) x cs)
    (HB : Below w0.heap.size w0 W) (hl : (xs.length + m) * bytes ≤ 140737488355328) (hs : a.eval s = v) (hx : a.eval x = .slice A m c)
    (h : ∀ v1 w1 F', Sep w0.heap.size w1 (row F' d e w0.heap.size v1 (xs ++ ys) :: rs) → Below w0.heap.size w0 w1 → Kc (a.put o.dst v1) w1) :
    if Region.wanted o (yielded ops a.tmps) = true then Oper.wp P o a W Kc Q else Kc (a.put o.dst undef) W := by
  refine Kd.R_append_rows_step d (w0 := w0) w0.heap.size hw s x t e z bytes ho ht hinfo hz hs0 hb0 v xs ys A m c (fun k => F k ∨ W.heap.size ≤ k) (fun _ => False) hs hx (Kd.R_mono HS.R (fun _ hk => .inl hk)) HR hKM (fun _ hk => hk.elim) (fun _ hk => .inr hk) HB HB.size hl ?_
  intro v1 w1 hr hb hg _
  obtain ⟨F', h1⟩ := HS.grown hr hg
  exact h v1 w1 F' h1 hb
/-- A literal in a region that draws its order. -/
theorem wp_lit_step (d : Kd α) {w0 W : World} (hw : Region.wanted o (yielded ops a.tmps) = true) {N : Tmp} (hd : o.dst = some N) (e : TypeId) (xs : List α) (inner : List Value)
    (hrun : (execOp a.eval o).run P W = .ok (.value (.slice (some ⟨W.heap.size, 0, none⟩) xs.length xs.length)) (W.alloc (.cells inner.toArray e)))
    (hrep : Reps (d.M W w0.heap.size (fun _ => False)) d.sz xs inner) {rs : List Res} (HS : Sep w0.heap.size W rs) (HB : Below w0.heap.size w0 W) (hm : xs.length ≤ 9223372036854775807)
    (h : ∀ v1 w1 F, Sep w0.heap.size w1 (row F d e w0.heap.size v1 xs :: rs) → Below w0.heap.size w0 w1 → Kc (a.put o.dst v1) w1) :
    if Region.wanted o (yielded ops a.tmps) = true then Oper.wp P o a W Kc Q else Kc (a.put o.dst undef) W := by
  refine Kd.R_lit_step d (w0 := w0) w0.heap.size e hw hd (xs := xs) (inner := inner) (ok := fun k => W.heap.size ≤ k) (okp := fun _ => False) hrun hrep (fun _ hk => hk.elim) (Nat.le_refl _) HB HB.size hm ?_
  intro v1 w1 hr hb hg _
  obtain ⟨F, h1, h2⟩ := Own.row hr
  exact h v1 w1 F (HS.new (below_of_grown hg) h1 h2) hb
end
end Go.Proofs.Ythkpnnbjcendcaa.Sp
end
section
/- What is sealed, opened: plain laws. -/
set_option linter.unusedVariables false
set_option linter.unusedSimpArgs false
open Go.RowKit Go.Proofs.Ythkpnnbjcendcaa.X Go.Proofs.Ythkpnnbjcendcaa.Pl Go.Proofs.YthkpnnbjcendcaaW.PrintWords Go.Proofs.YthkpnnbjcendcaaW.PrintLast Go.Proofs.YthkpnnbjcendcaaW.PrintMore
namespace Go.Proofs.Ythkpnnbjcendcaa.Pure
theorem foot_len (s : Nat) : (footL s).length = 4 := rfl
theorem seal_parts {x t r : List Int} {m : Nat} (h : varint m ++ r = sealL x ++ t) : m = x.length ∧ r = x ++ (footL (sumN (varint x.length ++ x)) ++ t) := by
  unfold sealL at h
  rw [List.append_assoc, List.append_assoc] at h
  exact varint_inj _ _ _ _ h
theorem seal_inj {x y r s : List Int} (h : sealL x ++ r = sealL y ++ s) : x = y ∧ r = s := by
  have h1 : varint x.length ++ (x ++ (footL (sumN (varint x.length ++ x)) ++ r)) = sealL y ++ s := by
    rw [← h]
    unfold sealL
    rw [List.append_assoc, List.append_assoc]
  obtain ⟨hl, h2⟩ := seal_parts h1
  obtain ⟨rfl, h3⟩ := List.append_inj h2 hl
  exact ⟨rfl, (List.append_inj h3 rfl).2⟩
theorem seal_made {m : Nat} {r : List Int} (hm : m + 4 ≤ r.length) (h : (r.drop m).take 4 = footL (sumN (varint m ++ r.take m))) : varint m ++ r = sealL (r.take m) ++ r.drop (m + 4) := by
  have hl : (r.take m).length = m := by rw [List.length_take]; omega
  unfold sealL
  rw [hl, ← h, List.append_assoc, List.append_assoc]
  congr 1
  rw [← List.drop_drop, List.take_append_drop, List.take_append_drop]
theorem seal_short {m : Nat} {r : List Int} (hm : r.length < m + 4) : ∀ x t, varint m ++ r ≠ sealL x ++ t := by
  intro x t h
  obtain ⟨rfl, h2⟩ := seal_parts h
  have := congrArg List.length h2
  rw [List.length_append, List.length_append, foot_len] at this
  omega
theorem seal_other {m : Nat} {r : List Int} (h : (r.drop m).take 4 ≠ footL (sumN (varint m ++ r.take m))) : ∀ x t, varint m ++ r ≠ sealL x ++ t := by
  intro x t he
  obtain ⟨rfl, h2⟩ := seal_parts he
  apply h
  rw [h2, List.drop_left, List.take_left, List.take_left' (foot_len _)]
end Go.Proofs.Ythkpnnbjcendcaa.Pure
end
