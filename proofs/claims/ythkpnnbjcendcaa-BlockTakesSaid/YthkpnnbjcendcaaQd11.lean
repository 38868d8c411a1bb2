/- What the law leans on, part 11: Rta, Otx, Sq, Pcr, Ssu, Rri, Xg, X85, X86, X88, X91. -/
import Derived.Test.YthkpnnbjcendcaaQd10
import Derived.Laws.BitsAllLaws
import Derived.BigQuiet
import Derived.Deep.QuietTactic
set_option linter.unusedVariables false
set_option linter.unusedSimpArgs false
namespace SzQd11
theorem sA_ {α : Type} {l : List α} {i : Nat} {a : α} : l.toArray.setIfInBounds i a = (l.set i a).toArray := List.setIfInBounds_toArray ..
theorem sB_ {α : Type} {x : α} {l : List α} {a : α} : (x :: l).set 0 a = a :: l := rfl
theorem sC_ {α : Type} {x : α} {l : List α} {n : Nat} {a : α} : (x :: l).set (n + 1) a = x :: l.set n a := rfl
end SzQd11
open SzQd11
section
open Go.RowKit Go.Proofs.Ythkpnnbjcendcaa.X Go.Proofs.Ythkpnnbjcendcaa.Pl Go.Proofs.Ythkpnnbjcendcaa.Sp Go.Proofs.Ythkpnnbjcendcaa.Pure Go.Proofs.YthkpnnbjcendcaaW.PrintWords Go.Proofs.YthkpnnbjcendcaaW.PrintLast Go.Proofs.YthkpnnbjcendcaaW.PrintMore
namespace Go.Proofs.Ythkpnnbjcendcaa.Sp
theorem Sep.r3 {base : Nat} {w : World} {a b c : Res} {rs : List Res} (h : Sep base w (a :: b :: c :: rs)) : Sep base w (a :: c :: b :: rs) := h.perm ((List.Perm.swap _ _ _).cons _)
theorem Sep.celln {base e n cap : Nat} {k : IntKind} {xs : List Int} {W : World} {F : Nat → Prop} {rs : List Res} {ad : Addr} (h : Sep base W (Sp.row F (Kd.int k) e base (.slice (some ad) n cap) xs :: rs)) (i : Nat) (x : Int) (hi : i < n) (hn : xs.length = n) (hx : xs.getD i 0 = x) : W.cell? (ad.add i) = some (.int k x) := by
 subst hn
 obtain ⟨a2, e2, h2⟩ := Kd.at_int (Kd.R_reads' h.R).2.2 (i : Int) (by omega) (by omega)
 injection e2 with e2
 subst e2
 rw [Int.toNat_natCast, rd_get, hx] at h2
 exact h2
end Go.Proofs.Ythkpnnbjcendcaa.Sp
namespace Go.Proofs.Ythkpnnbjcendcaa.Pure
theorem two_marksF {f : List Int → Nat → Option (Int × Nat)} {r : List Int} {q q1 q2 : Nat} {v1 v2 : Int} {bad1 bad2 : Bool}
  (h1 : ∀ n p', f r q = some (n, p') → false = false → bad1 = false ∧ v1 = n ∧ q1 = p') (h1n : f r q = none → bad1 = true)
  (hm : bad1 = true → bad2 = true) (h2 : ∀ n p', f r q1 = some (n, p') → bad1 = false → bad2 = false ∧ v2 = n ∧ q2 = p') (h2n : f r q1 = none → bad2 = true) :
  (bad2 = true → ∀ k, decXY f r (k + 1) q = none) ∧ (bad2 = false → ∀ k, decXY f r (k + 1) q = (decXY f r k q2).map fun t => (v1 :: t.1, v2 :: t.2.1, t.2.2)) := by
 constructor
 ·intro hb k
  rw [decXY]
  rcases hd : f r q with _ | ⟨n, p'⟩
  ·rfl
  ·obtain ⟨e1, e2, e3⟩ := h1 n p' hd rfl
   subst e2 e3
   dsimp only
   rcases hd2 : f r q1 with _ | ⟨n2, p2⟩
   ·rfl
   ·have := (h2 n2 p2 hd2 e1).1
    rw [hb] at this
    cases this
 ·intro hb k
  rcases hd : f r q with _ | ⟨n, p'⟩
  ·rw [hm (h1n hd)] at hb
   cases hb
  ·obtain ⟨e1, e2, e3⟩ := h1 n p' hd rfl
   subst e2 e3
   rw [decXY, hd]
   dsimp only
   rcases hd2 : f r q1 with _ | ⟨n2, p2⟩
   ·rw [h2n hd2] at hb
    cases hb
   ·obtain ⟨e4, e5, e6⟩ := h2 n2 p2 hd2 e1
    subst e5 e6
    dsimp only
    rcases decXY f r k q2 with _ | ⟨xs, ys, z⟩ <;> rfl
theorem putR_byt (l : List S52) : Byt (putR l).1 := by
 unfold putR
 split
 ·intro x hx; cases hx
 ·split
  ·intro x hx; cases hx
  ·intro x hx
   rcases List.mem_append.1 hx with h | h
   ·exact varint_byt _ x h
   ·exact byt_pack _ x h
theorem zipP_take_succ : ∀ (xs ys : List Int) (j : Nat), j < xs.length → j < ys.length → (zipP xs ys).take (j + 1) = (zipP xs ys).take j ++ [⟨xs.getD j 0, ys.getD j 0⟩]
 | [], _, j, hx, _ => absurd hx (by simp)
 | _ :: _, [], j, _, hy => absurd hy (by simp)
 | x :: xs, y :: ys, 0, _, _ => rfl
 | x :: xs, y :: ys, j + 1, hx, hy => by
  have := zipP_take_succ xs ys j (by simpa using hx) (by simpa using hy)
  rw [zipP_cons, List.take_succ_cons, this, List.take_succ_cons]
  rfl
end Go.Proofs.Ythkpnnbjcendcaa.Pure
namespace Go.Proofs.Ythkpnnbjcendcaa.Sc
theorem rnum_yes (m : Nat) (r : List Int) (hm : m < 2 ^ 64) (g : Nat) (A : Option Addr) (c : Nat) (b : List Int) (hb : b = varint m ++ r) (bad : Bool) (w0 w : World) (hB : Below w0.heap.size w0 w) (hO : Own w0.heap.size w (rtR g (.slice A b.length c) bad)) (hr : Kd.C (Kd.int .u8) w A b.length b) (hc : b.length ≤ c) (hby : Byt b) (hl : b.length < 1000000) :
  Calls Try.prog 79 #[.pointer (some ⟨g, 0, none⟩)] w fun e w' => ∃ A' c', e = .returned (.int .u64 (m : Int)) ∧ r.length ≤ c' ∧ (∀ w2, Kd.C (Kd.int .u8) w2 A b.length b → Kd.C (Kd.int .u8) w2 A' r.length r) ∧ Turned w0 w w' (fun k => k = g) (fun _ => rtR g (.slice A' r.length c') bad) := by
 refine (rnum_calls g A c b bad w0 w hB hO hr hc hby hl).mono ?_
 rintro e w' (⟨m', r', A', c', hm', he, h1, h2, h3, h4⟩ | ⟨hno, _⟩)
 ·obtain ⟨e1, e2⟩ := varint_inj _ _ _ _ (hb.symm.trans he)
  rw [← e1] at h1
  rw [← e2] at h2 h3 h4
  exact ⟨A', c', h1, h2, h3, h4⟩
 ·exact absurd hb (hno m r hm)
theorem rnum_no (g : Nat) (A : Option Addr) (c : Nat) (b : List Int) (hno : ∀ m r, m < 2 ^ 64 → b ≠ varint m ++ r) (bad : Bool) (w0 w : World) (hB : Below w0.heap.size w0 w) (hO : Own w0.heap.size w (rtR g (.slice A b.length c) bad)) (hr : Kd.C (Kd.int .u8) w A b.length b) (hc : b.length ≤ c) (hby : Byt b) (hl : b.length < 1000000) :
  Calls Try.prog 79 #[.pointer (some ⟨g, 0, none⟩)] w fun e w' => e = .returned (.int .u64 0) ∧ Turned w0 w w' (fun k => k = g) (fun _ => rtR g (.slice none 0 0) true) := by
 refine (rnum_calls g A c b bad w0 w hB hO hr hc hby hl).mono ?_
 rintro e w' (⟨m', r', A', c', hm', he, _⟩ | ⟨_, h1, h2⟩)
 ·exact absurd he (hno m' r' hm')
 ·exact ⟨h1, h2⟩
theorem rdmark_n (g : Nat) (A : Option Addr) (c n : Nat) (b : List Int) (p : Nat) (bad : Bool) (w0 w : World) (hn : b.length = n) (hB : Below w0.heap.size w0 w) (hO : Own w0.heap.size w (rdR g (.slice A n c) p bad)) (hr : Kd.C (Kd.int .u8) w0 A b.length b) (hc : b.length ≤ c) (hby : Byt b) (hl : n < 1000000) (hp : p < 900000000) :
  Calls Try.prog 80 #[.pointer (some ⟨g, 0, none⟩)] w fun e w' => MarkR (rdR g (.slice A n c)) g (decL b p) p bad w0 w e w' := by
 subst hn
 exact rdmark_calls g A c b p bad w0 w hB hO hr hc hby hl hp
theorem reffrs_n (A0 : Option Addr) (c0 n : Nat) (l0 xs : List Int) (w : World) (hn : l0.length = n) (hx : xs = frs 0 0 l0) (hr0 : Kd.C (Kd.int .i64) w A0 l0.length l0) (hc0 : n ≤ c0) (hl : n ≤ 1000000) :
  Calls Try.prog 40 #[.slice A0 n c0] w fun e w' => ∃ v, e = .returned v ∧ Kd.R (Kd.int .i64) 3 w' w.heap.size (fun _ => True) v xs ∧ Below w.heap.size w w' := by
 subst hn hx
 exact reffrs_calls A0 c0 l0 w hr0 hc0 hl
theorem rput_n (A0 : Option Addr) (c0 n : Nat) (l0 : List S52) (O : List Int) (q : Int) (w : World) (hn : l0.length = n) (ho : (putR l0).1 = O) (hq : (putR l0).2 = q) (hr0 : Kd.C k52 w A0 l0.length l0) (hc0 : n ≤ c0) (hl : n < 4611686018427387904) :
  Calls Try.prog 31 #[.slice A0 n c0] w fun e w' => ∃ v, e = .returned (.tuple #[v, .int .i64 q]) ∧ Kd.R (Kd.int .u8) 5 w' w.heap.size (fun _ => True) v O ∧ Below w.heap.size w w' := by
 subst hn
 exact rput_named A0 c0 l0 O q w ho hq hr0 hc0 hl
set_option maxHeartbeats 16000000 in
set_option maxRecDepth 100000 in
theorem rtake_own (A0 : Option Addr) (c0 : Nat) (b : List Int) (l : List S52) (z : Int) (w : World) (hr0 : Kd.C (Kd.int .u8) w A0 b.length b) (hc0 : b.length ≤ c0) (hby : Byt b) (hl : b.length < 1000000) (hlz : takeR b = (l, z)) :
  Calls Try.prog 42 #[.slice A0 b.length c0] w fun e w' => ∃ A c, e = .returned (.tuple #[.slice A l.length c, .int .i64 z]) ∧ Kd.C k52 w' A l.length l ∧ l.length ≤ c ∧ (∃ F, Own w.heap.size w' (ptsR F A l.length l)) ∧ Below w.heap.size w w' := by
 have HB := Aside0.mk (Below.refl w.heap.size w)
 have HS := Aside0.mk (Sep.nil w.heap.size w)
 have HR := Aside0.mk hr0
 have HC := Aside0.mk hc0
 have HBY := Aside0.mk hby
 have HL := Aside0.mk hl
 have HLZ := Aside0.mk hlz
 clear hr0 hc0 hby hl hlz
 by_cases hex : ∃ (m : Nat) (r : List Int), m < 2 ^ 64 ∧ b = varint m ++ r
 ·obtain ⟨m, r, hm, hbr⟩ := hex
  have HM := Aside0.mk hm
  have HBR := Aside0.mk hbr
  obtain ⟨nr, hnr⟩ : ∃ n, n = r.length := ⟨_, rfl⟩
  have HNR := Aside0.mk hnr
  by_cases hlong : m > 1024
  ·have HE := Aside0.mk (show takeR b = ([], 6) by rw [hbr]; exact take_long hlong)
   have c1b : decide ((1024 : Int) < (m : Int)) = true := decide_eq_true (by omega)
   have c1n : decide (1024 < m) = true := decide_eq_true hlong
   clear hm hbr hnr hlong
   go_enter Try.func42, Try.ntmps42
   go_wp2_with (first
    | ((with_reducible refine gate_dst (N := 16) rfl ?_); (try (refine gate_guard (by rfl) ?_; dsimp only)); (refine wp_lit (Kd.int .u8) (w0 := w) ?hg_ (N := 16) ?hd_ 5 (([] : List Int)) [] ?hr_ ?hp_ (by repeat (first | exact HS.out | apply sep_alloc | apply sep_drewN | apply sep_drew)) (by repeat (first | exact HB.out | apply below_alloc | apply pw_below_drewN | apply below_drew1)) (by simp) ?_; (case hd_ => rfl); (case hg_ => rfl); (case hr_ => first | (go_simp; done) | (go_simp; rfl)); (case hp_ => exact (Reps.none _ _))); intro v_ w_ F_ hs_ hb_; clear HB HS; have HB := Aside0.mk hb_; have HS := Aside0.mk hs_; clear hs_ hb_; obtain ⟨A_, c_, e_⟩ := Kd.R_slice (Sep.R HS.out); subst e_; (skip))
    | ((with_reducible refine gate_builtin (b := .append) (xs := #[.tmp 16, .tmp 17]) rfl ?_); (refine wp_append_row (Kd.int .u8) (w0 := w) rfl (.tmp 16) (.tmp 17) 24 5 (.int .u8 0) 1 rfl Try.underlying24 info5 rfl (by decide) (by omega) b _ _ _ HS.out (Kd.C_below HR.out HB.out) (fun _ _ h => h) (by repeat (first | exact HB.out | apply below_alloc | apply pw_below_drewN | apply below_drew1)) (by have := HL.out; simp; omega) rfl rfl ?_); (intro v_ w_ F_ hs_ hb_); (obtain ⟨O0, hy_⟩ : ∃ y_, y_ = ([] : List Int) ++ b := ⟨_, rfl⟩; rw [← hy_] at hs_; have HO0 := Aside0.mk hy_; clear hy_ HB HS; have HB := Aside0.mk hb_; have HS := Aside0.mk hs_; clear hs_ hb_; obtain ⟨A_, c_, e_⟩ := Kd.R_slice (Sep.R HS.out); subst e_); (have ho0 : b = O0 := (by rw [HO0.out]; rfl); clear HO0; subst ho0))
    | ((with_reducible refine gate_dst (N := 20) rfl ?_); (try (refine gate_guard (by rfl) ?_; dsimp only)); refine box_event ?hg (N := 20) ?hd (cs := #[.slice A_ b.length c_, .bool false]) (t := 104) ?hr ?_; (case hd => rfl); (case hg => rfl); (case hr => first | (go_simp; done) | (go_simp; rfl)); intro g hg w5 hbox hb; have n0_ := Aside0.mk (below_step (by repeat (first | exact HB.out | apply below_alloc | apply pw_below_drewN | apply below_drew1)) hb); have n1_ := Aside0.mk (Sep.newbox (by repeat (first | exact HS.out | apply sep_alloc | apply sep_drewN | apply sep_drew)) hb (Nat.le_of_eq hg.symm) (below_size (by repeat (first | exact HB.out | apply below_alloc | apply pw_below_drewN | apply below_drew1))) hbox); clear HB HS; have HB := n0_; have HS := n1_; clear n0_ n1_ hb hbox hg)
    | (go_at_call 79; ((with_reducible refine (rnum_yes m r HM.out g A_ c_ b HBR.out false w _ HB.out HS.out.own (Kd.R_reads' (Sep.R HS.out.drop)).2.2 (Kd.R_reads' (Sep.R HS.out.drop)).2.1 HBY.out HL.out).mono ?_); rintro e w2 ⟨A2, c2, rfl, hlc, hcd, ht⟩; rw [← HNR.out] at ht; clear hlc hcd; obtain ⟨F_, hs_⟩ := Turned.sep ht (HS.out) rfl; have n0_ := Aside0.mk (Turned.below ht); clear HB HS ht; have HB := n0_; have HS := Aside0.mk hs_; clear n0_ hs_; have hc1 := Sep.c21 HS.out)))
   go_ret2
   have hl := HLZ.out
   rw [HE.out] at hl
   injection hl with h1 h2
   subst h1 h2
   exact ⟨none, 0, rfl, Kd.C_nil _ _, by simp, ptsR_nil _ _, HB.out⟩
  ·have c1b : decide ((1024 : Int) < (m : Int)) = false := decide_eq_false (by omega)
   have c1n : decide (1024 < m) = false := decide_eq_false hlong
   have HM2 := Aside0.mk (show m ≤ 1024 by omega)
   have HBYR := Aside0.mk (show Byt r from byt_app (a := varint m) (hbr ▸ HBY.out))
   have HRL := Aside0.mk (show nr < 1000000 by have := HL.out; rw [hbr, List.length_append, ← hnr] at this; omega)
   clear hm hbr hlong hnr
   go_enter Try.func42, Try.ntmps42
   go_wp2_with (first
    | ((with_reducible refine gate_dst (N := 16) rfl ?_); (try (refine gate_guard (by rfl) ?_; dsimp only)); (refine wp_lit (Kd.int .u8) (w0 := w) ?hg_ (N := 16) ?hd_ 5 (([] : List Int)) [] ?hr_ ?hp_ (by repeat (first | exact HS.out | apply sep_alloc | apply sep_drewN | apply sep_drew)) (by repeat (first | exact HB.out | apply below_alloc | apply pw_below_drewN | apply below_drew1)) (by simp) ?_; (case hd_ => rfl); (case hg_ => rfl); (case hr_ => first | (go_simp; done) | (go_simp; rfl)); (case hp_ => exact (Reps.none _ _))); intro v_ w_ F_ hs_ hb_; clear HB HS; have HB := Aside0.mk hb_; have HS := Aside0.mk hs_; clear hs_ hb_; obtain ⟨A_, c_, e_⟩ := Kd.R_slice (Sep.R HS.out); subst e_; (skip))
    | ((with_reducible refine gate_builtin (b := .append) (xs := #[.tmp 16, .tmp 17]) rfl ?_); (refine wp_append_row (Kd.int .u8) (w0 := w) rfl (.tmp 16) (.tmp 17) 24 5 (.int .u8 0) 1 rfl Try.underlying24 info5 rfl (by decide) (by omega) b _ _ _ HS.out (Kd.C_below HR.out HB.out) (fun _ _ h => h) (by repeat (first | exact HB.out | apply below_alloc | apply pw_below_drewN | apply below_drew1)) (by have := HL.out; simp; omega) rfl rfl ?_); (intro v_ w_ F_ hs_ hb_); (obtain ⟨O0, hy_⟩ : ∃ y_, y_ = ([] : List Int) ++ b := ⟨_, rfl⟩; rw [← hy_] at hs_; have HO0 := Aside0.mk hy_; clear hy_ HB HS; have HB := Aside0.mk hb_; have HS := Aside0.mk hs_; clear hs_ hb_; obtain ⟨A_, c_, e_⟩ := Kd.R_slice (Sep.R HS.out); subst e_); (have ho0 : b = O0 := (by rw [HO0.out]; rfl); clear HO0; subst ho0))
    | ((with_reducible refine gate_dst (N := 20) rfl ?_); (try (refine gate_guard (by rfl) ?_; dsimp only)); refine box_event ?hg (N := 20) ?hd (cs := #[.slice A_ b.length c_, .bool false]) (t := 104) ?hr ?_; (case hd => rfl); (case hg => rfl); (case hr => first | (go_simp; done) | (go_simp; rfl)); intro g hg w5 hbox hb; have n0_ := Aside0.mk (below_step (by repeat (first | exact HB.out | apply below_alloc | apply pw_below_drewN | apply below_drew1)) hb); have n1_ := Aside0.mk (Sep.newbox (by repeat (first | exact HS.out | apply sep_alloc | apply sep_drewN | apply sep_drew)) hb (Nat.le_of_eq hg.symm) (below_size (by repeat (first | exact HB.out | apply below_alloc | apply pw_below_drewN | apply below_drew1))) hbox); clear HB HS; have HB := n0_; have HS := n1_; clear n0_ n1_ hb hbox hg)
    | (go_at_call 79; ((with_reducible refine (rnum_yes m r HM.out g A_ c_ b HBR.out false w _ HB.out HS.out.own (Kd.R_reads' (Sep.R HS.out.drop)).2.2 (Kd.R_reads' (Sep.R HS.out.drop)).2.1 HBY.out HL.out).mono ?_); rintro e w2 ⟨A2, c2, rfl, hlc, hcd, ht⟩; rw [← HNR.out] at ht; obtain ⟨F_, hs_⟩ := Turned.sep ht (HS.out) rfl; have n0_ := Aside0.mk (Turned.below ht); clear HB HS ht; have HB := n0_; have HS := Aside0.mk hs_; clear n0_ hs_; have hc0 := Sep.c20 HS.out; have hc1 := Sep.c21 HS.out; have HCR := Aside0.mk (hcd _ (Kd.R_reads' (Sep.R HS.out.drop)).2.2); have HC2 := Aside0.mk hlc; clear hlc hcd; have HBW := Aside0.mk HB.out; clear HB HS; have HB := Aside0.mk (Below.refl w2.heap.size w2); have HS := Aside0.mk (Sep.nil w2.heap.size w2)))
    | ((with_reducible refine gate_dst (N := 36) rfl ?_); (try (refine gate_guard (by rfl) ?_; dsimp only)); refine box_event ?hg (N := 36) ?hd (cs := #[.slice A2 nr c2, .int .i64 0, .bool false]) (t := 107) ?hr ?_; (case hd => rfl); (case hg => rfl); (case hr => first | (go_simp; done) | (go_simp; rfl)); intro gx hg w6 hbox hb; have n0_ := Aside0.mk (below_step (by repeat (first | exact HB.out | apply below_alloc | apply pw_below_drewN | apply below_drew1)) hb); have n1_ := Aside0.mk (Sep.newbox (by repeat (first | exact HS.out | apply sep_alloc | apply sep_drewN | apply sep_drew)) hb (Nat.le_of_eq hg.symm) (below_size (by repeat (first | exact HB.out | apply below_alloc | apply pw_below_drewN | apply below_drew1))) hbox); clear HB HS; have HB := n0_; have HS := n1_; clear n0_ n1_ hb hbox hg))
   have n0_ := (HS.out.nilrow (Kd.int .i64) 3).nilrow (Kd.int .i64) 3
   clear HS
   have HS := Aside0.mk n0_
   clear n0_ hc0 hc1
   have HXY := Aside0.mk (show decXY decL r m 0 = (decXY decL r (m - 0) 0).map (fun t => (([] : List Int) ++ t.1, ([] : List Int) ++ t.2.1, t.2.2)) by
    rcases decXY decL r m 0 with _ | ⟨xs, ys, z⟩ <;> rfl)
   have hmi : wrap64 (m : Int) = (m : Int) := by have := HM2.out; rw [w64 (by omega) (by omega)]
   go_loopg [7, 8, 9] m (fun kq v7 v8 v9 w' => ∃ (j : Nat) (xs ys : List Int) (Fx Fy : Nat → Prop) (q : Nat) (bad : Bool), v9 = .int .i64 (j : Int) ∧
    Aside0 (kq + j = m ∧ q ≤ 136 * j ∧ xs.length = j ∧ ys.length = j ∧ (bad = true → decXY decL r m 0 = none) ∧ (bad = false → decXY decL r m 0 = (decXY decL r (m - j) q).map (fun t => (xs ++ t.1, ys ++ t.2.1, t.2.2)))) ∧
    Aside0 (Sep w2.heap.size w' [row Fy (Kd.int .i64) 3 w2.heap.size v8 ys, row Fx (Kd.int .i64) 3 w2.heap.size v7 xs, rdR gx (.slice A2 nr c2) q bad]) ∧ Aside0 (Below w2.heap.size w2 w'))
   case atStart => exact ⟨0, [], [], _, _, 0, false, rfl, ⟨by omega, by omega, rfl, rfl, by simp, fun _ => HXY.out⟩, HS, HB⟩
   case round =>
    clear HS HB HXY
    obtain ⟨j, xs, ys, Fx, Fy, q, bad, rfl, HI, HS, HB⟩ := hrel
    obtain ⟨Ay, cy, ey⟩ := Kd.R_slice (Sep.R HS.out)
    obtain ⟨Ax, cx, ex⟩ := Kd.R_slice (Sep.R HS.out.drop)
    have hx2 := Sep.c32 HS.out.p3
    by_cases hgo : j < m ∧ bad = false
    ·obtain ⟨hlt, rfl⟩ := hgo
     subst ex ey
     obtain ⟨k1, rfl⟩ : ∃ n, gk = n + 1 := ⟨gk - 1, by have := HI.out.1; omega⟩
     have d1b : decide ((j : Int) < (m : Int)) = true := decide_eq_true (by omega)
     have d1n : decide (j < m) = true := decide_eq_true hlt
     have hnx : wrap64 ((j : Int) + 1) = ((j + 1 : Nat) : Int) := by have := HM2.out; rw [w64 (by omega) (by omega)]; simp
     have HX := Aside0.mk hnx
     have HJ := Aside0.mk hlt
     have HQ := Aside0.mk (show q < 800000000 by have := HI.out.2.1; have := HM2.out; omega)
     have HXL := Aside0.mk (show xs.length + 1 ≤ 2000 by have := HI.out.2.2.1; have := HM2.out; omega)
     have HYL := Aside0.mk (show ys.length + 1 ≤ 2000 by have := HI.out.2.2.2.1; have := HM2.out; omega)
     have HDC := Aside0.mk (HI.out.2.2.2.2.2 rfl)
     clear hnx hlt
     go_wp2_with (first
      | ((with_reducible refine gate_dst (N := 52) rfl ?_); (try (refine gate_guard (by rfl) ?_; dsimp only)); refine goesL_ (some 52) rfl rfl Try.func80 (by kernel_rfl) rfl #[.pointer (some ⟨gx, 0, none⟩)] rfl (by (try simp only [List.map_toArray, List.map_cons, List.map_nil]); first | done | rfl) ?_; (with_reducible refine (rdmark_n gx A2 c2 nr r q false w2 _ HNR.out.symm HB.out HS.out.p3.own HCR.out HC2.out HBYR.out HRL.out (by have := HQ.out; omega)).mono ?_); rintro e w8 ⟨v1, q1, bad1, rfl, ht, hq1, _, h11, h12⟩; refine ⟨_, rfl, ?_⟩; have H11 := Aside0.mk h11; have H12 := Aside0.mk h12; have HQ1 := Aside0.mk hq1; clear h11 h12 hq1 hx2; obtain ⟨F_, hs_⟩ := Turned.sep ht (HS.out.p3) rfl; have n0_ := Aside0.mk (Turned.below ht); clear HB HS ht; have HB := n0_; have HS := Aside0.mk hs_; clear n0_ hs_)
      | ((with_reducible refine gate_builtin (b := .append) (xs := #[.tmp 50, .tmp 53]) rfl ?_); (at_builtin); (refine wp_append (Kd.int .i64) (w0 := w2) rfl (.tmp 50) (.tmp 53) 54 3 (.int .i64 0) 8 rfl Try.underlying54 info3 rfl (by decide) (by omega) (v1) [.int .i64 v1] HS.out.p3 rfl rfl rfl (by repeat (first | exact HB.out | apply below_alloc | apply pw_below_drewN | apply below_drew1)) (by have := HXL.out; omega) ?_); (intro v_ w_ F_ hs_ hb_); (obtain ⟨X1, hy_⟩ : ∃ y_, y_ = xs ++ [v1] := ⟨_, rfl⟩; rw [← hy_] at hs_; have HX1 := Aside0.mk hy_; clear hy_ HB HS; have HB := Aside0.mk hb_; have HS := Aside0.mk hs_; clear hs_ hb_; obtain ⟨A_, c_, e_⟩ := Kd.R_slice (Sep.R HS.out); subst e_); (skip))
      | ((with_reducible refine gate_dst (N := 57) rfl ?_); (try (refine gate_guard (by rfl) ?_; dsimp only)); refine goesL_ (some 57) rfl rfl Try.func80 (by kernel_rfl) rfl #[.pointer (some ⟨gx, 0, none⟩)] rfl (by (try simp only [List.map_toArray, List.map_cons, List.map_nil]); first | done | rfl) ?_; (with_reducible refine (rdmark_n gx A2 c2 nr r q1 bad1 w2 _ HNR.out.symm HB.out HS.out.p2.own HCR.out HC2.out HBYR.out HRL.out (by have := HQ.out; have := HQ1.out; omega)).mono ?_); rintro e w9 ⟨v2, q2, bad2, rfl, ht, hq2, hm12, h21, h22⟩; refine ⟨_, rfl, ?_⟩; have H2M := Aside0.mk hm12; have H21 := Aside0.mk h21; have H22 := Aside0.mk h22; have HQ2 := Aside0.mk hq2; clear h21 h22 hq2 hm12; obtain ⟨F_, hs_⟩ := Turned.sep ht (HS.out.p2) rfl; have n0_ := Aside0.mk (Turned.below ht); clear HB HS ht; have HB := n0_; have HS := Aside0.mk hs_; clear n0_ hs_)
      | ((with_reducible refine gate_builtin (b := .append) (xs := #[.tmp 55, .tmp 58]) rfl ?_); (at_builtin); (refine wp_append (Kd.int .i64) (w0 := w2) rfl (.tmp 55) (.tmp 58) 54 3 (.int .i64 0) 8 rfl Try.underlying54 info3 rfl (by decide) (by omega) (v2) [.int .i64 v2] HS.out.p3 rfl rfl rfl (by repeat (first | exact HB.out | apply below_alloc | apply pw_below_drewN | apply below_drew1)) (by have := HYL.out; omega) ?_); (intro v_ w_ F_ hs_ hb_); (obtain ⟨Y1, hy_⟩ : ∃ y_, y_ = ys ++ [v2] := ⟨_, rfl⟩; rw [← hy_] at hs_; have HY1 := Aside0.mk hy_; clear hy_ HB HS; have HB := Aside0.mk hb_; have HS := Aside0.mk hs_; clear hs_ hb_; obtain ⟨A_, c_, e_⟩ := Kd.R_slice (Sep.R HS.out); subst e_); (skip)))
     have HNN := Aside0.mk (two_marksF (fun n p' h _ => H11.out n p' h (by trivial)) H12.out H2M.out H21.out H22.out)
     go_roundg k1
     case measure => omega
     case rel => exact ⟨j + 1, X1, Y1, _, _, q2, bad2, (by first | rfl | rw [HX.out]), ⟨by have := HI.out.1; omega, by have := HI.out.2.1; have := HQ1.out; have := HQ2.out; omega, by rw [HX1.out, List.length_append, HI.out.2.2.1]; rfl, by rw [HY1.out, List.length_append, HI.out.2.2.2.1]; rfl, fun h => by
       rw [HDC.out, show m - j = (m - (j + 1)) + 1 by have := HJ.out; omega, HNN.out.1 h]
       rfl, fun h => by
       rw [HDC.out, show m - j = (m - (j + 1)) + 1 by have := HJ.out; omega, HNN.out.2 h, HX1.out, HY1.out]
       rcases decXY decL r (m - (j + 1)) q2 with _ | ⟨us, vs, z⟩
       ·rfl
       ·simp only [Option.map_some, List.append_assoc, List.cons_append, List.nil_append]⟩, ⟨HS.out.r3⟩, HB⟩
    ·by_cases hbad : bad = true
     ·subst hbad
      have HE := Aside0.mk (show takeR b = ([], 6) by rw [HBR.out]; exact take_lax (HI.out.2.2.2.2.1 rfl))
      have hcs : decide ((j : Int) < (m : Int)) = true ∧ decide (j < m) = true ∨ decide ((j : Int) < (m : Int)) = false ∧ decide (j < m) = false := by
       by_cases h : j < m
       ·exact .inl ⟨decide_eq_true (by omega), decide_eq_true h⟩
       ·exact .inr ⟨decide_eq_false (by omega), decide_eq_false h⟩
      clear hgo
      rcases hcs with ⟨d1b, d1n⟩ | ⟨d1b, d1n⟩
      all_goals (
       go_wp2
       go_ret2
       have hl := HLZ.out
       rw [HE.out] at hl
       injection hl with h1 h2
       subst h1 h2
       exact ⟨none, 0, rfl, Kd.C_nil _ _, by simp, ptsR_nil _ _, below_step HBW.out HB.out⟩)
     ·have hbf : bad = false := by simpa using hbad
      subst hbf
      have hlt : ¬ j < m := fun h => hgo ⟨h, rfl⟩
      have d1b : decide ((j : Int) < (m : Int)) = false := decide_eq_false (by omega)
      have d1n : decide (j < m) = false := decide_eq_false hlt
      have hjm : j = m := by have := HI.out.1; omega
      have HXM := Aside0.mk (show xs.length = m by rw [HI.out.2.2.1, hjm])
      have HYM := Aside0.mk (show ys.length = m by rw [HI.out.2.2.2.1, hjm])
      rw [HXM.out] at ex
      rw [HYM.out] at ey
      subst ex ey
      have hdec : decXY decL r m 0 = some (xs, ys, q) := by
       rw [HI.out.2.2.2.2.2 rfl, hjm, Nat.sub_self]
       simp [decXY]
      have htk := take_ref hdec
      rw [← HBR.out, HLZ.out] at htk
      obtain ⟨ps, hps⟩ : ∃ p, p = frs 0 0 xs := ⟨_, rfl⟩
      obtain ⟨qs, hqs⟩ : ∃ p, p = frs 0 0 ys := ⟨_, rfl⟩
      have HPS := Aside0.mk hps
      have HQS := Aside0.mk hqs
      have HPL := Aside0.mk (show ps.length = m by rw [hps, frs_length, HXM.out])
      have HQL := Aside0.mk (show qs.length = m by rw [hqs, frs_length, HYM.out])
      rw [← hps, ← hqs] at htk
      have HTK := Aside0.mk htk
      clear hgo hbad hlt hjm hdec hps hqs htk
      go_wp2_with (first
       | (go_at_call 40; ((with_reducible refine (reffrs_n Ax cx m xs ps _ HXM.out HPS.out (Kd.R_reads' (Sep.R HS.out.drop)).2.2 (Kd.R_reads' (Sep.R HS.out.drop)).2.1 (by have := HM2.out; omega)).mono ?_); rintro e w3 ⟨v, rfl, ho, hb⟩; clear hx2; obtain ⟨Ap, cp, e_⟩ := Kd.R_slice ho; rw [HPL.out] at e_; subst e_; obtain ⟨Fp, hs_⟩ := Sep.newrow (by repeat (first | exact HS.out | apply sep_alloc | apply sep_drewN | apply sep_drew)) hb (below_size (by repeat (first | exact HB.out | apply below_alloc | apply pw_below_drewN | apply below_drew1))) ho; have n0_ := Aside0.mk (below_step (by repeat (first | exact HB.out | apply below_alloc | apply pw_below_drewN | apply below_drew1)) hb); clear HB HS hb ho; have HB := n0_; have HS := Aside0.mk hs_; clear n0_ hs_))
       | (go_at_call 40; ((with_reducible refine (reffrs_n Ay cy m ys qs _ HYM.out HQS.out (Kd.R_reads' (Sep.R HS.out.drop)).2.2 (Kd.R_reads' (Sep.R HS.out.drop)).2.1 (by have := HM2.out; omega)).mono ?_); rintro e w4 ⟨v, rfl, ho, hb⟩; obtain ⟨Aq, cq, e_⟩ := Kd.R_slice ho; rw [HQL.out] at e_; subst e_; obtain ⟨Fq, hs_⟩ := Sep.newrow (by repeat (first | exact HS.out | apply sep_alloc | apply sep_drewN | apply sep_drew)) hb (below_size (by repeat (first | exact HB.out | apply below_alloc | apply pw_below_drewN | apply below_drew1))) ho; have n0_ := Aside0.mk (below_step (by repeat (first | exact HB.out | apply below_alloc | apply pw_below_drewN | apply below_drew1)) hb); clear HB HS hb ho; have HB := n0_; have HS := Aside0.mk hs_; clear n0_ hs_)))
      have n0_ := (HS.out.drop3.drop3.drop3).nilrow k52 52
      clear HS
      have HS := Aside0.mk n0_
      clear n0_
      go_loopg [12, 13] m (fun kq v12 v13 w' => ∃ (j : Nat) (O : List S52) (F : Nat → Prop), v13 = .int .i64 (j : Int) ∧ Aside0 (kq + j = m ∧ O = (zipP ps qs).take j) ∧ Aside0 (Sep w2.heap.size w' [row F k52 52 w2.heap.size v12 O, row Fq (Kd.int .i64) 3 w2.heap.size (.slice Aq m cq) qs, row Fp (Kd.int .i64) 3 w2.heap.size (.slice Ap m cp) ps]) ∧ Aside0 (Below w2.heap.size w2 w'))
      case atStart => exact ⟨0, [], _, rfl, ⟨by omega, rfl⟩, HS, HB⟩
      case round =>
       clear HS HB
       obtain ⟨j, O, F, rfl, HI, HS, HB⟩ := hrel
       obtain ⟨Ao, co, eo⟩ := Kd.R_slice (Sep.R HS.out)
       by_cases hlt : j < m
       ·subst eo
        obtain ⟨k1, rfl⟩ : ∃ n, gk = n + 1 := ⟨gk - 1, by have := HI.out.1; omega⟩
        have d1b : decide ((j : Int) < (m : Int)) = true := decide_eq_true (by omega)
        have d1n : decide (j < m) = true := decide_eq_true hlt
        have hnx : wrap64 ((j : Int) + 1) = ((j + 1 : Nat) : Int) := by have := HM2.out; rw [w64 (by omega) (by omega)]; simp
        have HX := Aside0.mk hnx
        have HJ := Aside0.mk hlt
        obtain ⟨adq, eq_, hq0⟩ := Kd.at_int (Kd.R_reads' (Sep.R HS.out.p2)).2.2 (j : Int) (by omega) (by rw [HQL.out]; omega)
        obtain ⟨adp, ep_, hp0⟩ := Kd.at_int (Kd.R_reads' (Sep.R HS.out.p3)).2.2 (j : Int) (by omega) (by rw [HPL.out]; omega)
        subst eq_ ep_
        obtain ⟨x, hx⟩ : ∃ x, ps.getD j 0 = x := ⟨_, rfl⟩
        obtain ⟨y, hy⟩ : ∃ x, qs.getD j 0 = x := ⟨_, rfl⟩
        have HXE := Aside0.mk hx
        have HYE := Aside0.mk hy
        have c4 := eq_true hlt
        have c5 := eq_true (show (j : Int) < (m : Int) by omega)
        have c6 := eq_true (show 0 ≤ (j : Int) by omega)
        have HOL := Aside0.mk (show O.length + 1 ≤ 1025 by rw [HI.out.2, List.length_take]; have := HM2.out; omega)
        clear hq0 hp0 hx hy hnx hlt
        go_wp2
        refine start_ (n := 13) (S := fun w' => w'.cell? (adp.add j) = some (.int .i64 x) ∧ w'.cell? (adq.add j) = some (.int .i64 y)) (ds := []) #[false, false, false, false, false, false, false, false, false, false, false, false, false] (by kernel_rfl) rfl rfl ⟨Sep.celln (sep_drew HS.out.p3) j x HJ.out HPL.out HXE.out, Sep.celln (sep_drew HS.out.p2) j y HJ.out HQL.out HYE.out⟩ (fun hHeld => ?_)
        have n0_ := Aside0.mk (below_drew HB.out)
        have n1_ := Aside0.mk (sep_drew HS.out)
        clear HB HS
        have HB := n0_
        have HS := n1_
        clear n0_ n1_
        generalize (World.drew wr) = wd_ at HB HS hHeld ⊢
        refine pure_ (i := 0) (N := some 74) (v := ?_) (a' := ?_) #[true, false, false, false, false, false, false, false, false, false, false, false, false] rfl rfl (by kernel_rfl) (fun _ _ _ h => h) (Or.inl ⟨by rfl, ?_⟩) ?_ ?_
        rotate_left
        ·intro w'
         go_simp
         with_reducible rfl
        rotate_left
        ·simp only [Act.put, sA_, sB_, sC_, i64_w, i32_w]
         rfl
        refine pure_ (i := 1) (N := some 75) (v := ?_) (a' := ?_) #[true, true, false, false, false, false, false, false, false, false, false, false, false] rfl rfl (by kernel_rfl) (fun _ _ _ h => h) (Or.inl ⟨by rfl, ?_⟩) ?_ ?_
        rotate_left
        ·intro w'
         go_simp
         with_reducible rfl
        rotate_left
        ·simp only [Act.put, sA_, sB_, sC_, i64_w, i32_w]
         rfl
        refine pure_ (i := 2) (N := some 76) (v := ?_) (a' := ?_) #[true, true, true, false, false, false, false, false, false, false, false, false, false] rfl rfl (by kernel_rfl) (fun _ _ _ h => h) (Or.inl ⟨by rfl, ?_⟩) ?_ ?_
        rotate_left
        ·intro w'
         go_simp
         with_reducible rfl
        rotate_left
        ·simp only [Act.put, sA_, sB_, sC_, i64_w, i32_w]
         rfl
        refine pure_ (i := 3) (N := some 77) (v := ?_) (a' := ?_) #[true, true, true, true, false, false, false, false, false, false, false, false, false] rfl rfl (by kernel_rfl) (fun _ _ _ h => h) (Or.inl ⟨by rfl, ?_⟩) ?_ ?_
        rotate_left
        ·intro w'
         go_simp
         with_reducible rfl
        rotate_left
        ·simp only [Act.put, sA_, sB_, sC_, i64_w, i32_w]
         rfl
        refine pure_ (i := 5) (N := some 79) (v := ?_) (a' := ?_) #[true, true, true, true, false, true, false, false, false, false, false, false, false] rfl rfl (by kernel_rfl) (fun _ _ _ h => h) (Or.inl ⟨by rfl, ?_⟩) ?_ ?_
        rotate_left
        ·intro w'
         go_simp
         with_reducible rfl
        rotate_left
        ·simp only [Act.put, sA_, sB_, sC_, i64_w, i32_w]
         rfl
        refine pure_ (i := 6) (N := some 80) (v := ?_) (a' := ?_) #[true, true, true, true, false, true, true, false, false, false, false, false, false] rfl rfl (by kernel_rfl) (fun _ _ _ h => h) (Or.inl ⟨by rfl, ?_⟩) ?_ ?_
        rotate_left
        ·intro w'
         go_simp
         with_reducible rfl
        rotate_left
        ·simp only [Act.put, sA_, sB_, sC_, i64_w, i32_w]
         rfl
        refine pure_ (i := 7) (N := some 81) (v := ?_) (a' := ?_) #[true, true, true, true, false, true, true, true, false, false, false, false, false] rfl rfl (by kernel_rfl) (fun _ _ _ h => h) (Or.inl ⟨by rfl, ?_⟩) ?_ ?_
        rotate_left
        ·intro w'
         go_simp
         with_reducible rfl
        rotate_left
        ·simp only [Act.put, sA_, sB_, sC_, i64_w, i32_w]
         rfl
        refine take_ (i := 4) (N := some 78) (v := ?_) (a' := ?_) #[true, true, true, true, true, true, true, true, false, false, false, false, false] rfl rfl (by kernel_rfl) (fun _ _ _ h => h) (Or.inl ⟨by rfl, ?_⟩) hHeld ?_ ?_
        rotate_left
        ·rintro w' ⟨s0, s1⟩
         go_simp
         with_reducible rfl
        rotate_left
        ·simp only [Act.put, sA_, sB_, sC_, i64_w, i32_w]
         rfl
        refine take_ (i := 8) (N := some 82) (v := ?_) (a' := ?_) #[true, true, true, true, true, true, true, true, true, false, false, false, false] rfl rfl (by kernel_rfl) (fun _ _ _ h => h) (Or.inl ⟨by rfl, ?_⟩) hHeld ?_ ?_
        rotate_left
        ·rintro w' ⟨s0, s1⟩
         go_simp
         with_reducible rfl
        rotate_left
        ·simp only [Act.put, sA_, sB_, sC_, i64_w, i32_w]
         rfl
        refine pure_ (i := 9) (N := some 83) (v := ?_) (a' := ?_) #[true, true, true, true, true, true, true, true, true, true, false, false, false] rfl rfl (by kernel_rfl) (fun _ _ _ h => h) (Or.inl ⟨by rfl, ?_⟩) ?_ ?_
        rotate_left
        ·intro w'
         go_simp
         with_reducible rfl
        rotate_left
        ·simp only [Act.put, sA_, sB_, sC_, i64_w, i32_w]
         rfl
        refine one_ (i := 10) (N := some 84) #[true, true, true, true, true, true, true, true, true, true, true, false, false] rfl rfl (by kernel_rfl) (by decide) (fun K hK => ?_)
        refine value_ (w1 := ?_) (v := ?_) (by rfl) rfl ?_ ?_
        rotate_left 2
        ·go_simp
         constructor
         ·rfl
         ·rfl
        refine hK.out _ _ ⟨Sep.celln (sep_alloc HS.out.p3 _) j x HJ.out HPL.out HXE.out, Sep.celln (sep_alloc HS.out.p2 _) j y HJ.out HQL.out HYE.out⟩ (fun hHeld => ?_)
        clear hK K
        refine norm_ (a' := ?_) ?_ ?_
        rotate_left
        ·show Act.put _ (some 84) _ = _
         simp only [Act.put, sA_, sB_, sC_, i64_w, i32_w]
         rfl
        refine one_ (i := 11) (N := some 85) #[true, true, true, true, true, true, true, true, true, true, true, true, false] rfl rfl (by kernel_rfl) (by decide) (fun K hK => ?_)
        refine wp_append_step k52 (w0 := w2) ?hw_ (.tmp 74) (.tmp 84) 44 52 (.agg #[.int .i64 0, .int .i64 0]) 16 ?ho_ ?ht_ ?hi_ ?hz_ ?h0_ ?hb_ ((⟨x, y⟩ : S52)) [.int .i64 x, .int .i64 y] (HS.out) ?hs_ ?hx_ ?hp_ ?HB_ ?hl_ ?_; (case hw_ => rfl); (case ho_ => rfl); (case ht_ => exact Try.underlying44); (case hi_ => exact info52); (case hz_ => rfl); (case h0_ => decide); (case hb_ => omega); (case hs_ => rfl); (case hx_ => rfl); (case hp_ => exact (k52_mkM _ _ _ (⟨x, y⟩ : S52))); (case HB_ => exact HB.out); (case hl_ => have := HOL.out; omega); intro v_ w_ F_ hs_ hb_; obtain ⟨O1, hy_⟩ : ∃ y_, y_ = O ++ [(⟨x, y⟩ : S52)] := ⟨_, rfl⟩; rw [← hy_] at hs_; have HO1 := Aside0.mk hy_; clear hy_ HB HS hHeld; have HB := Aside0.mk hb_; have HS := Aside0.mk hs_; clear hb_ hs_; obtain ⟨A_, c_, e_⟩ := Kd.R_slice (Sep.R HS.out); subst e_
        refine hK.out _ _ ⟨Sep.celln HS.out.p3 j x HJ.out HPL.out HXE.out, Sep.celln HS.out.p2 j y HJ.out HQL.out HYE.out⟩ (fun hHeld => ?_)
        clear hK K
        refine norm_ (a' := ?_) ?_ ?_
        rotate_left
        ·show Act.put _ (some 85) _ = _
         simp only [Act.put, sA_, sB_, sC_, i64_w, i32_w]
         rfl
        refine pure_ (i := 12) (N := some 12) (v := ?_) (a' := ?_) #[true, true, true, true, true, true, true, true, true, true, true, true, true] rfl rfl (by kernel_rfl) (fun _ _ _ h => h) (Or.inl ⟨by rfl, ?_⟩) ?_ ?_
        rotate_left
        ·intro w'
         go_simp
         with_reducible rfl
        rotate_left
        ·simp only [Act.put, sA_, sB_, sC_, i64_w, i32_w]
         rfl
        refine done_ (by kernel_rfl) ?_
        go_wp2
        go_roundg k1
        case measure => omega
        case rel => exact ⟨j + 1, O1, _, (by first | rfl | rw [HX.out]), ⟨by have := HI.out.1; omega, by rw [HO1.out, HI.out.2, zipP_take_succ _ _ _ (by rw [HPL.out]; exact HJ.out) (by rw [HQL.out]; exact HJ.out), HXE.out, HYE.out]⟩, HS, HB⟩
       ·have d1b : decide ((j : Int) < (m : Int)) = false := decide_eq_false (by omega)
        have d1n : decide (j < m) = false := decide_eq_false hlt
        have HOE := Aside0.mk (show O = zipP ps qs by rw [HI.out.2, List.take_of_length_le (by rw [zipP_length _ _ (by rw [HPL.out, HQL.out]), HPL.out]; have := HI.out.1; omega)])
        have HOL := Aside0.mk (show O.length = m by rw [HOE.out, zipP_length _ _ (by rw [HPL.out, HQL.out]), HPL.out])
        rw [HOL.out] at eo
        subst eo
        obtain ⟨C, hC⟩ : ∃ a, (putR O).1 = a := ⟨_, rfl⟩
        obtain ⟨zc, hzc⟩ : ∃ a, (putR O).2 = a := ⟨_, rfl⟩
        have HCC := Aside0.mk hC
        have HZC := Aside0.mk hzc
        obtain ⟨sC, hsC⟩ : ∃ s, s = strOfNums C := ⟨_, rfl⟩
        obtain ⟨sB, hsB⟩ : ∃ s, s = strOfNums b := ⟨_, rfl⟩
        have HSC := Aside0.mk hsC
        have HSB := Aside0.mk hsB
        have hlz := HTK.out
        rw [← HOE.out] at hlz
        have hinj := str_inj (xs := C) (ys := b) (hC ▸ putR_byt O) HBY.out
        rw [← hsC, ← hsB] at hinj
        have hpr : putR O = (b, 0) ↔ zc = 0 ∧ sC = sB := by
         rw [hinj, ← hC, ← hzc]
         constructor
         ·intro h; rw [h]; exact ⟨rfl, rfl⟩
         ·rintro ⟨h1, h2⟩; rw [← h1, ← h2]
        have hcs : ((zc != 0) = true ∧ l = [] ∧ z = 6) ∨ ((zc != 0) = false ∧ (sC.toList == sB.toList) = false ∧ l = [] ∧ z = 6) ∨ ((zc != 0) = false ∧ (sC.toList == sB.toList) = true ∧ l = O ∧ z = 0) := by
         by_cases h : putR O = (b, 0)
         ·rw [if_pos h] at hlz
          injection hlz with h1 h2
          exact .inr (.inr ⟨by rw [(hpr.1 h).1]; rfl, bytes_eq (hpr.1 h).2, h1, h2⟩)
         ·rw [if_neg h] at hlz
          injection hlz with h1 h2
          by_cases hz : zc = 0
          ·exact .inr (.inl ⟨by rw [hz]; rfl, bytes_ne fun e => h (hpr.2 ⟨hz, e⟩), h1, h2⟩)
          ·exact .inl ⟨bne_iff_ne.2 hz, h1, h2⟩
        have HTL := Aside0.mk HOL.out
        clear hlt hC hzc hsC hsB hlz hinj hpr
        rcases hcs with ⟨hne, hl1, hz1⟩ | ⟨hne, hst, hl1, hz1⟩ | ⟨hne, hst, hl1, hz1⟩
        all_goals (
         have HL1 := Aside0.mk hl1
         have HZ1 := Aside0.mk hz1
         clear hl1 hz1
         go_wp2_with (first
          | ((with_reducible refine gate_dst (N := 88) rfl ?_); (try (refine gate_guard (by rfl) ?_; dsimp only)); refine goesL_ (some 88) rfl rfl Try.func31 (by kernel_rfl) rfl #[.slice Ao m co] rfl (by (try simp only [List.map_toArray, List.map_cons, List.map_nil]); first | done | rfl) ?_; (with_reducible refine (rput_n Ao co m O C zc _ HOL.out HCC.out HZC.out (Kd.R_reads' (Sep.R HS.out)).2.2 (Kd.R_reads' (Sep.R HS.out)).2.1 (by have := HM2.out; omega)).mono ?_); rintro e w5_ ⟨v, rfl, ho, hb⟩; refine ⟨_, rfl, ?_⟩; obtain ⟨Ac, cc, e_⟩ := Kd.R_slice ho; subst e_; obtain ⟨Fc, hs_⟩ := Sep.newrow (by repeat (first | exact HS.out | apply sep_alloc | apply sep_drewN | apply sep_drew)) hb (below_size (by repeat (first | exact HB.out | apply below_alloc | apply pw_below_drewN | apply below_drew1))) ho; have n0_ := Aside0.mk (below_step (by repeat (first | exact HB.out | apply below_alloc | apply pw_below_drewN | apply below_drew1)) hb); clear HB HS hb ho; have HB := n0_; have HS := Aside0.mk hs_; clear n0_ hs_; have hcv1 := own_string (P := Try.prog) Try.underlying24 Try.underlying5 Try.underlying9 (Kd.own_of_R (Sep.R HS.out)); rw [← HSC.out] at hcv1; have hcv2 := Kd.C_string (P := Try.prog) (c := c0) Try.underlying24 Try.underlying5 Try.underlying9 (Kd.C_below HR.out (below_step HBW.out HB.out)); rw [← HSB.out] at hcv2))
         go_ret2
         rw [HL1.out, HZ1.out])
        ·exact ⟨none, 0, rfl, Kd.C_nil _ _, by simp, ptsR_nil _ _, below_step HBW.out HB.out⟩
        ·exact ⟨none, 0, rfl, Kd.C_nil _ _, by simp, ptsR_nil _ _, below_step HBW.out HB.out⟩
        ·have hr := Kd.R_reads' (Sep.R HS.out.drop)
         have hop := (own_pts HS.out.drop).lower HBW.out.size
         rw [HTL.out] at hr hop ⊢
         exact ⟨Ao, co, rfl, hr.2.2, hr.2.1, ⟨_, hop⟩, below_step HBW.out HB.out⟩
 ·have HNO := Aside0.mk (show ∀ m r, m < 2 ^ 64 → b ≠ varint m ++ r from fun m r hm he => hex ⟨m, r, hm, he⟩)
  clear hex
  go_enter Try.func42, Try.ntmps42
  go_wp2_with (first
   | ((with_reducible refine gate_dst (N := 16) rfl ?_); (try (refine gate_guard (by rfl) ?_; dsimp only)); (refine wp_lit (Kd.int .u8) (w0 := w) ?hg_ (N := 16) ?hd_ 5 (([] : List Int)) [] ?hr_ ?hp_ (by repeat (first | exact HS.out | apply sep_alloc | apply sep_drewN | apply sep_drew)) (by repeat (first | exact HB.out | apply below_alloc | apply pw_below_drewN | apply below_drew1)) (by simp) ?_; (case hd_ => rfl); (case hg_ => rfl); (case hr_ => first | (go_simp; done) | (go_simp; rfl)); (case hp_ => exact (Reps.none _ _))); intro v_ w_ F_ hs_ hb_; clear HB HS; have HB := Aside0.mk hb_; have HS := Aside0.mk hs_; clear hs_ hb_; obtain ⟨A_, c_, e_⟩ := Kd.R_slice (Sep.R HS.out); subst e_; (skip))
   | ((with_reducible refine gate_builtin (b := .append) (xs := #[.tmp 16, .tmp 17]) rfl ?_); (refine wp_append_row (Kd.int .u8) (w0 := w) rfl (.tmp 16) (.tmp 17) 24 5 (.int .u8 0) 1 rfl Try.underlying24 info5 rfl (by decide) (by omega) b _ _ _ HS.out (Kd.C_below HR.out HB.out) (fun _ _ h => h) (by repeat (first | exact HB.out | apply below_alloc | apply pw_below_drewN | apply below_drew1)) (by have := HL.out; simp; omega) rfl rfl ?_); (intro v_ w_ F_ hs_ hb_); (obtain ⟨O0, hy_⟩ : ∃ y_, y_ = ([] : List Int) ++ b := ⟨_, rfl⟩; rw [← hy_] at hs_; have HO0 := Aside0.mk hy_; clear hy_ HB HS; have HB := Aside0.mk hb_; have HS := Aside0.mk hs_; clear hs_ hb_; obtain ⟨A_, c_, e_⟩ := Kd.R_slice (Sep.R HS.out); subst e_); (have ho0 : b = O0 := (by rw [HO0.out]; rfl); clear HO0; subst ho0))
   | ((with_reducible refine gate_dst (N := 20) rfl ?_); (try (refine gate_guard (by rfl) ?_; dsimp only)); refine box_event ?hg (N := 20) ?hd (cs := #[.slice A_ b.length c_, .bool false]) (t := 104) ?hr ?_; (case hd => rfl); (case hg => rfl); (case hr => first | (go_simp; done) | (go_simp; rfl)); intro g hg w5 hbox hb; have n0_ := Aside0.mk (below_step (by repeat (first | exact HB.out | apply below_alloc | apply pw_below_drewN | apply below_drew1)) hb); have n1_ := Aside0.mk (Sep.newbox (by repeat (first | exact HS.out | apply sep_alloc | apply sep_drewN | apply sep_drew)) hb (Nat.le_of_eq hg.symm) (below_size (by repeat (first | exact HB.out | apply below_alloc | apply pw_below_drewN | apply below_drew1))) hbox); clear HB HS; have HB := n0_; have HS := n1_; clear n0_ n1_ hb hbox hg)
   | (go_at_call 79; ((with_reducible refine (rnum_no g A_ c_ b HNO.out false w _ HB.out HS.out.own (Kd.R_reads' (Sep.R HS.out.drop)).2.2 (Kd.R_reads' (Sep.R HS.out.drop)).2.1 HBY.out HL.out).mono ?_); rintro e w2 ⟨rfl, ht⟩; obtain ⟨F_, hs_⟩ := Turned.sep ht (HS.out) rfl; have n0_ := Aside0.mk (Turned.below ht); clear HB HS ht; have HB := n0_; have HS := Aside0.mk hs_; clear n0_ hs_; have hc1 := Sep.c21 HS.out)))
  go_ret2
  have hl := HLZ.out
  rw [take_none HNO.out] at hl
  injection hl with h1 h2
  subst h1 h2
  exact ⟨none, 0, rfl, Kd.C_nil _ _, by simp, ptsR_nil _ _, HB.out⟩
end Go.Proofs.Ythkpnnbjcendcaa.Sc
namespace Go.Proofs.Ythkpnnbjcendcaa.Sc
set_option maxHeartbeats 8000000 in
set_option maxRecDepth 100000 in
theorem otx_yes (m : Nat) (r t u : List Int) (hm : m < 2 ^ 64) (g : Nat) (A : Option Addr) (c : Nat) (b : List Int) (hb : b = varint m ++ r) (hmr : m ≤ r.length) (ht : t = r.take m) (hu : u = r.drop m) (bad : Bool) (w0 w : World) (hB : Below w0.heap.size w0 w) (hO : Own w0.heap.size w (otR g (.slice A b.length c) bad)) (hst : ∀ w2, Stay w w2 (fun k => k = g) → Kd.C (Kd.int .u8) w2 A b.length b) (hc : b.length ≤ c) (hby : Byt b) (hl : b.length < 1000000) :
  Calls Try.prog 93 #[.pointer (some ⟨g, 0, none⟩)] w fun e w' => ∃ A' c', e = .returned (.string (strOfNums t)) ∧ u.length ≤ c' ∧ (∀ w2, Kd.C (Kd.int .u8) w2 A b.length b → Kd.C (Kd.int .u8) w2 A' u.length u) ∧ Turned w0 w w' (fun k => k = g) (fun _ => otR g (.slice A' u.length c') bad) := by
 have HB0 := Aside0.mk hB
 have HB := Aside0.mk hB
 have HS := Aside0.mk (Sep.start hO)
 have HST := Aside0.mk hst
 have HR := Aside0.mk (hst w (fun _ _ _ => rfl))
 have HC := Aside0.mk hc
 have HBY := Aside0.mk hby
 have HL := Aside0.mk hl
 have HM := Aside0.mk hm
 have HBR := Aside0.mk hb
 obtain ⟨nr, hnr⟩ : ∃ n, n = r.length := ⟨_, rfl⟩
 have HNR := Aside0.mk hnr
 rw [← hnr] at hmr
 have hnl : nr < 1000000 := by rw [hb, List.length_append, ← hnr] at hl; omega
 have q1 : decide ((nr : Int) < (m : Int)) = false := decide_eq_false (by omega)
 have q1n : decide (nr < m) = false := decide_eq_false (by omega)
 have hcw : IntKind.u64.wrap (nr : Int) = (nr : Int) := w_u64 (by omega) (by omega)
 have k1 := eq_true hmr
 have k1i := eq_true (show (m : Int) ≤ (nr : Int) by omega)
 have k2i := eq_true (show 0 ≤ (m : Int) by omega)
 obtain ⟨i05, hi05, _, hsz5, _⟩ := info_parts info5
 have HTO := Aside0.mk (fun (A : Option Addr) (c : Nat) (hc : nr ≤ c) => cut_to (P := Try.prog) 24 5 .u64 Try.underlying24 hi05 A nr c (m : Int) (by omega) (by omega) hc)
 have HFR := Aside0.mk (fun (A : Option Addr) (c : Nat) => cut_from (P := Try.prog) 24 5 .u64 Try.underlying24 hi05 1 hsz5 A nr c (m : Int) (by omega) (by omega))
 obtain ⟨nu, hnu⟩ : ∃ n, n = u.length := ⟨_, rfl⟩
 have hun : nr - m = nu := by rw [hnu, hu, List.length_drop, hnr]
 have HUN := Aside0.mk hun
 have htl : t.length = m := by rw [ht, List.length_take]; omega
 have HTC := Aside0.mk (show ∀ (w2 : World) (A2 : Option Addr), Kd.C (Kd.int .u8) w2 A2 r.length r → Kd.C (Kd.int .u8) w2 A2 m t from fun w2 A2 h => by rw [← htl, ht]; exact C_take' h m)
 have HUC := Aside0.mk (show ∀ (w2 : World) (A2 : Option Addr) (c2 : Nat), r.length ≤ c2 → Kd.C (Kd.int .u8) w2 A2 r.length r → Kd.C (Kd.int .u8) w2 (if c2 = m then A2 else A2.map (fun x => x.add (m * 1))) nu u from fun w2 A2 c2 hcc h => by rw [hnu, hu]; exact Kd.C_drop (m := m) h (by omega) hcc)
 obtain ⟨s, hs⟩ : ∃ s, s = strOfNums t := ⟨_, rfl⟩
 have HS_ := Aside0.mk hs
 rw [← hs, ← hnu]
 have hc0 := Sep.c20 HS.out
 clear hB hO hst hc hby hl hm hb hmr ht hu hnr hnl hi05 hsz5 hun htl hs hnu hc0
 go_enter Try.func93, Try.ntmps93
 go_wp2_with (first
  | (go_at_call 74; ((with_reducible refine (num_yes m r HM.out g A c b HBR.out bad w0 _ HB.out HS.out.own HR.out HC.out HBY.out HL.out).mono ?_); rintro e w2 ⟨A2, c2, rfl, hlc, hcd, ht⟩; rw [← HNR.out] at ht; have HLC := Aside0.mk hlc; have HCD := Aside0.mk hcd; have HCB := Aside0.mk (Turned.kept ht); clear hlc hcd; obtain ⟨F_, hs_⟩ := Turned.sep ht (HS.out) rfl; have n0_ := Aside0.mk (Turned.below ht); clear HB HS ht; have HB := n0_; have HS := Aside0.mk hs_; clear n0_ hs_; have hc0 := Sep.c20 HS.out; have hf0 := Sep.free HS.out 0; have hto := HTO.out A2 c2 (by rw [HNR.out]; exact HLC.out); have hfr := HFR.out A2 c2; rw [Int.toNat_natCast] at hto hfr; rw [HUN.out] at hfr; obtain ⟨A4, hA4⟩ : ∃ A, A = (if c2 = m then A2 else A2.map (fun x => x.add (m * 1))) := ⟨_, rfl⟩; rw [← hA4] at hfr; have HA4 := Aside0.mk hA4; obtain ⟨c4, hc4⟩ : ∃ c4, c4 = c2 - m := ⟨_, rfl⟩; rw [← hc4] at hfr; have HC4 := Aside0.mk (show nu ≤ c4 by have := HUN.out; have := HLC.out; have := HNR.out; omega); have hcv := Kd.C_string (P := Try.prog) (c := c2) Try.underlying24 Try.underlying5 Try.underlying9 (HTC.out _ A2 (HCD.out _ (HST.out _ HCB.out))); rw [← HS_.out] at hcv; clear hA4 hc4)))
 go_ret
 exact ⟨A4, c4, by first | rfl | simp, HC4.out, fun w2 h2 => by rw [HA4.out]; exact HUC.out w2 A2 c2 HLC.out (HCD.out w2 h2), Turned.of_sep (mk := fun _ => otR g (.slice A4 nu c4) bad) (F' := fun _ => True) (HS.out.s20 _) HB0.out (below_set HB.out HS.out.ge)⟩
set_option maxHeartbeats 8000000 in
set_option maxRecDepth 100000 in
theorem otx_no (g : Nat) (A : Option Addr) (c : Nat) (b : List Int) (hno : ∀ (m : Nat) (r : List Int), m < 2 ^ 64 → b = varint m ++ r → r.length < m) (bad : Bool) (w0 w : World) (hB : Below w0.heap.size w0 w) (hO : Own w0.heap.size w (otR g (.slice A b.length c) bad)) (hr : Kd.C (Kd.int .u8) w A b.length b) (hc : b.length ≤ c) (hby : Byt b) (hl : b.length < 1000000) :
  Calls Try.prog 93 #[.pointer (some ⟨g, 0, none⟩)] w fun e w' => e = .returned (.string (strOfNums [])) ∧ Turned w0 w w' (fun k => k = g) (fun _ => otR g (.slice none 0 0) true) := by
 have HB0 := Aside0.mk hB
 have HB := Aside0.mk hB
 have HS := Aside0.mk (Sep.start hO)
 have HR := Aside0.mk hr
 have HC := Aside0.mk hc
 have HBY := Aside0.mk hby
 have HL := Aside0.mk hl
 by_cases hex : ∃ (m : Nat) (r : List Int), m < 2 ^ 64 ∧ b = varint m ++ r
 ·obtain ⟨m, r, hm, hb⟩ := hex
  have hmr := hno m r hm hb
  have HM := Aside0.mk hm
  have HBR := Aside0.mk hb
  obtain ⟨nr, hnr⟩ : ∃ n, n = r.length := ⟨_, rfl⟩
  have HNR := Aside0.mk hnr
  rw [← hnr] at hmr
  have q1 : decide ((nr : Int) < (m : Int)) = true := decide_eq_true (by omega)
  have q1n : decide (nr < m) = true := decide_eq_true hmr
  have hcw : IntKind.u64.wrap (nr : Int) = (nr : Int) := w_u64 (by omega) (by omega)
  clear hB hO hr hc hby hl hm hb hmr hnr hno
  go_enter Try.func93, Try.ntmps93
  go_wp2_with (first
   | (go_at_call 74; ((with_reducible refine (num_yes m r HM.out g A c b HBR.out bad w0 _ HB.out HS.out.own HR.out HC.out HBY.out HL.out).mono ?_); rintro e w2 ⟨A2, c2, rfl, hlc, hcd, ht⟩; rw [← HNR.out] at ht; clear hlc hcd; obtain ⟨F_, hs_⟩ := Turned.sep ht (HS.out) rfl; have n0_ := Aside0.mk (Turned.below ht); clear HB HS ht; have HB := n0_; have HS := Aside0.mk hs_; clear n0_ hs_; have hc0 := Sep.c20 HS.out))
   | (go_at_call 100; ((with_reducible refine (ofail_calls g _ bad w0 _ HB.out HS.out.own).mono ?_); rintro e w8 ⟨rfl, ht⟩; clear hc0; obtain ⟨F_, hs_⟩ := Turned.sep ht (HS.out) rfl; have n0_ := Aside0.mk (Turned.below ht); clear HB HS ht; have HB := n0_; have HS := Aside0.mk hs_; clear n0_ hs_)))
  go_ret
  exact ⟨by first | rfl | simp, Turned.of_sep (mk := fun _ => otR g (.slice none 0 0) true) (F' := fun _ => True) HS.out HB0.out HB.out⟩
 ·have HNO := Aside0.mk (show ∀ m r, m < 2 ^ 64 → b ≠ varint m ++ r from fun m r hm he => hex ⟨m, r, hm, he⟩)
  have hcv : ∀ W : World, (convert 24 9 (.slice none 0 0)).run Try.prog W = .ok (.string (strOfNums [])) W := fun W => Kd.C_string (P := Try.prog) (w := W) (n := 0) (c := 0) Try.underlying24 Try.underlying5 Try.underlying9 (Kd.C_nil (Kd.int .u8) W)
  obtain ⟨i05, hi05, _, hsz5, _⟩ := info_parts info5
  have hto := cut_to (P := Try.prog) 24 5 .u64 Try.underlying24 hi05 none 0 0 0 (by omega) (by omega) (by omega)
  have hfr := cut_from (P := Try.prog) 24 5 .u64 Try.underlying24 hi05 1 hsz5 none 0 0 0 (by omega) (by omega)
  have hto2 : ∀ W : World, (Instr.slice 24 (.slice none 0 0) none (some (.int .u64 0)) none).run Try.prog W = .ok (.slice none 0 0) W := fun W => by have := hto W; simpa using this
  have hfr2 : ∀ W : World, (Instr.slice 24 (.slice none 0 0) (some (.int .u64 0)) none none).run Try.prog W = .ok (.slice none 0 0) W := fun W => by have := hfr W; simpa using this
  clear hB hO hr hc hby hl hex hno hi05 hsz5 hto hfr
  go_enter Try.func93, Try.ntmps93
  go_wp2_with (first
   | (go_at_call 74; ((with_reducible refine (num_no g A c b HNO.out bad w0 _ HB.out HS.out.own HR.out HC.out HBY.out HL.out).mono ?_); rintro e w2 ⟨rfl, ht⟩; obtain ⟨F_, hs_⟩ := Turned.sep ht (HS.out) rfl; have n0_ := Aside0.mk (Turned.below ht); clear HB HS ht; have HB := n0_; have HS := Aside0.mk hs_; clear n0_ hs_; have hc0 := Sep.c20 HS.out; have hf0 := Sep.free HS.out 0)))
  go_ret
  exact ⟨by first | rfl | simp, Turned.of_sep (mk := fun _ => otR g (.slice none 0 0) true) (F' := fun _ => True) (HS.out.s20 _) HB0.out (below_set HB.out HS.out.ge)⟩
end Go.Proofs.Ythkpnnbjcendcaa.Sc
end
section
namespace Go.Proofs.Ythkpnnbjcendcaa.Sp
open Go.RowKit Go.Proofs.YthkpnnbjcendcaaW.PrintWords Go.Proofs.YthkpnnbjcendcaaW.PrintLast Go.Proofs.YthkpnnbjcendcaaW.PrintMore
def rowN {α : Type} (F : Nat → Prop) (d : Kd α) (e base : Nat) (v : Value) (xs : List α) : Res := ⟨F, fun w => Kd.N d e w base F v xs⟩
section
variable {α : Type} {d : Kd α} {e base : Nat} {v : Value} {xs : List α} {w w' : World} {F ok : Nat → Prop} {a b : Res} {rs : List Res}
theorem Own.rowN (h : Kd.N d e w base ok v xs) (hlo : ∀ k, ok k → base ≤ k) : ∃ F, Own base w (rowN F d e base v xs) ∧ ∀ k, F k → ok k :=
 ⟨fun k => ok k ∧ k < w.heap.size, ⟨fun k hk => hlo k hk.1, fun k hk => hk.2, fun w' hw => Kd.N_step (Kd.N_bound h) (fun k hk _ => hw k hk)⟩, fun k hk => hk.1⟩
theorem Sep.N (h : Sep base w (Sp.rowN F d e base v xs :: rs)) : Kd.N d e w base F v xs := h.now
theorem Sep.nilN (h : Sep base w rs) (d : Kd α) (e : Nat) : Sep base w (Sp.rowN (fun _ => False) d e base (.slice none 0 0) [] :: rs) :=
 ⟨⟨fun _ hk => hk.elim, fun _ hk => hk.elim, fun w' _ => Kd.N_nil _ _ _ _ _⟩, fun _ _ _ hk => hk.elim, h⟩
theorem Sep.both (h : Sep base w (a :: b :: rs)) : Sep base w (⟨fun k => a.foot k ∨ b.foot k, fun _ => True⟩ :: rs) :=
 ⟨⟨fun k hk => hk.elim (h.1.lo k) (h.2.2.1.lo k), fun k hk => hk.elim (h.1.hi k) (h.2.2.1.hi k), fun _ _ => trivial⟩,
  fun q hq k hk => hk.elim (h.2.1 q (List.mem_cons_of_mem _ hq) k) (h.2.2.2.1 q hq k), h.2.2.2.2⟩
end
section
variable {P : Program} {ops : Array Oper} {rest : List Oper} {o : Oper} {a : Act} {Q : Exit → Act → World → Prop} {Kc : Act → World → Prop} {α : Type}
theorem wp_appendN (d : Kd α) {w0 W : World} (hgd : o.guard = none) (s x : Operand) (t e : TypeId) (z : Value) (bytes : Nat)
  (ho : o.op = .call { callee := .builtin .append, args := #[s, x], argTypes := #[t, t] })
  (ht : P.underlying t = some (.slice e)) (hinfo : (P.info? e).map (fun i => (i.zero, i.size, i.bytes)) = some (some z, d.sz, bytes)) (hz : z.cells.size = d.sz) (hs0 : 0 < d.sz) (hb0 : 0 < bytes)
  {v : Value} {xs : List α} (p : α) (cs : List Value) {F : Nat → Prop} {r : Res} {rs : List Res} (HS : Sep w0.heap.size W (rowN F d e w0.heap.size v xs :: r :: rs)) (hs : a.eval s = v) (hx : a.eval x = .slice (some ⟨W.heap.size, 0, none⟩) 1 1) (hp : Kd.FK d W r.foot p cs)
  (HB : Below w0.heap.size w0 W) (hl : (xs.length + 1) * bytes ≤ 140737488355328)
  (h : ∀ v1 w1 F', Sep w0.heap.size w1 (rowN F' d e w0.heap.size v1 (xs ++ [p]) :: rs) → Below w0.heap.size w0 w1 → wpList P ops Q rest (a.put o.dst v1) w1) :
  wpList P ops Q (o :: rest) a (W.alloc (.cells cs.toArray e)) := by
 refine Kd.N_append d (w0 := w0) w0.heap.size hgd s x t e z bytes ho ht hinfo hz hs0 hb0 v xs p cs (fun k => (F k ∨ r.foot k) ∨ W.heap.size ≤ k) r.foot hs hx hp (fun k hk => ⟨.inl (.inr hk), fun he => HS.2.1 r List.mem_cons_self k (HS.N.1 k he.symm) hk⟩) (fun _ hk => .inr hk) (Kd.N_mono HS.N (fun _ hk => .inl (.inl hk))) HB HB.size hl ?_
 intro v1 w1 hr hb hg _
 have h2 := HS.both
 obtain ⟨F', h3, h4⟩ := Own.rowN hr (fun k hk => hk.elim (h2.1.lo k) (fun h => Nat.le_trans HB.size h))
 exact h v1 w1 F' (h2.call (Stay.of_kept (Kept.of_grown hg (Kept.refl W (fun k => F k ∨ r.foot k)) (fun k e => .inl (.inl (HS.N.1 k e))))) h3 h4) hb
theorem wp_append_row_step (d : Kd α) {w0 W : World} (hw : Region.wanted o (yielded ops a.tmps) = true) (s x : Operand) (t e : TypeId) (z : Value) (bytes : Nat)
  (ho : o.op = .call { callee := .builtin .append, args := #[s, x], argTypes := #[t, t] })
  (ht : P.underlying t = some (.slice e)) (hinfo : (P.info? e).map (fun i => (i.zero, i.size, i.bytes)) = some (some z, d.sz, bytes)) (hz : z.cells.size = d.sz) (hs0 : 0 < d.sz) (hb0 : 0 < bytes)
  {v : Value} {xs : List α} (ys : List α) (A : Option Addr) (m c : Nat) {F : Nat → Prop} {rs : List Res} (HS : Sep w0.heap.size W (row F d e w0.heap.size v xs :: rs)) (HR : d.C W A m ys) (hKM : ∀ x cs, d.K W x cs → d.M W w0.heap.size (fun _ => False) x cs)
  (HB : Below w0.heap.size w0 W) (hl : (xs.length + m) * bytes ≤ 140737488355328) (hs : a.eval s = v) (hx : a.eval x = .slice A m c)
  (h : ∀ v1 w1 F', Sep w0.heap.size w1 (row F' d e w0.heap.size v1 (xs ++ ys) :: rs) → Below w0.heap.size w0 w1 → Kc (a.put o.dst v1) w1) :
  if Region.wanted o (yielded ops a.tmps) = true then Oper.wp P o a W Kc Q else Kc (a.put o.dst undef) W := by
 refine Kd.R_append_rows_step d (w0 := w0) w0.heap.size hw s x t e z bytes ho ht hinfo hz hs0 hb0 v xs ys A m c (fun k => F k ∨ W.heap.size ≤ k) (fun _ => False) hs hx (Kd.R_mono HS.R (fun _ hk => .inl hk)) HR hKM (fun _ hk => hk.elim) (fun _ hk => .inr hk) HB HB.size hl ?_
 intro v1 w1 hr hb hg _
 obtain ⟨F', h1⟩ := HS.grown hr hg
 exact h v1 w1 F' h1 hb
theorem wp_lit_step (d : Kd α) {w0 W : World} (hw : Region.wanted o (yielded ops a.tmps) = true) {N : Tmp} (hd : o.dst = some N) (e : TypeId) (xs : List α) (inner : List Value)
  (hrun : (execOp a.eval o).run P W = .ok (.value (.slice (some ⟨W.heap.size, 0, none⟩) xs.length xs.length)) (W.alloc (.cells inner.toArray e)))
  (hrep : Reps (d.M W w0.heap.size (fun _ => False)) d.sz xs inner) {rs : List Res} (HS : Sep w0.heap.size W rs) (HB : Below w0.heap.size w0 W) (hm : xs.length ≤ 9223372036854775807)
  (h : ∀ v1 w1 F, Sep w0.heap.size w1 (row F d e w0.heap.size v1 xs :: rs) → Below w0.heap.size w0 w1 → Kc (a.put o.dst v1) w1) :
  if Region.wanted o (yielded ops a.tmps) = true then Oper.wp P o a W Kc Q else Kc (a.put o.dst undef) W := by
 refine Kd.R_lit_step d (w0 := w0) w0.heap.size e hw hd (xs := xs) (inner := inner) (ok := fun k => W.heap.size ≤ k) (okp := fun _ => False) hrun hrep (fun _ hk => hk.elim) (Nat.le_refl _) HB HB.size hm ?_
 intro v1 w1 hr hb hg _
 obtain ⟨F, h1, h2⟩ := Own.row hr
 exact h v1 w1 F (HS.new (below_of_grown hg) h1 h2) hb
end
end Go.Proofs.Ythkpnnbjcendcaa.Sp
end
section
open Go.RowKit Go.Proofs.Ythkpnnbjcendcaa.X Go.Proofs.Ythkpnnbjcendcaa.Pl Go.Proofs.YthkpnnbjcendcaaW.PrintWords Go.Proofs.YthkpnnbjcendcaaW.PrintLast Go.Proofs.YthkpnnbjcendcaaW.PrintMore
namespace Go.Proofs.Ythkpnnbjcendcaa.Pure
def crc1 (s : Nat) : Nat := if s < 2147483648 then 2 * s else (2 * (s - 2147483648)) ^^^ 79764919
def crcK : Nat → Nat → Nat
 | 0, s => s
 | k + 1, s => crcK k (crc1 s)
def crcB (s : Nat) (c : Int) : Nat := crcK 8 (s ^^^ (c.toNat * 16777216))
def crcL (s : Nat) (b : List Int) : Nat := b.foldl crcB s
theorem crcL_nil (s : Nat) : crcL s [] = s := rfl
theorem crcL_cons (s : Nat) (c : Int) (b : List Int) : crcL s (c :: b) = crcL (crcB s c) b := by unfold crcL; rw [List.foldl_cons]
theorem crcK_zero (s : Nat) : crcK 0 s = s := rfl
theorem crcK_one (k s : Nat) : crcK (k + 1) s = crcK k (crc1 s) := rfl
def sumN (b : List Int) : Nat := crcL 4294967295 b ^^^ 4294967295
theorem crc1_lt {s : Nat} (h : s < 4294967296) : crc1 s < 4294967296 := by
 unfold crc1
 split
 ·omega
 ·exact Nat.xor_lt_two_pow (n := 32) (by omega) (by decide)
theorem crcK_lt (k : Nat) : ∀ {s : Nat}, s < 4294967296 → crcK k s < 4294967296 := by
 induction k with
 | zero => intro s h; exact h
 | succ k ih => intro s h; rw [crcK_one]; exact ih (crc1_lt h)
theorem crcB_lt {s : Nat} {c : Int} (h : s < 4294967296) (hc : 0 ≤ c ∧ c ≤ 255) : crcB s c < 4294967296 := crcK_lt 8 (Nat.xor_lt_two_pow (n := 32) h (by omega))
theorem crcL_lt {b : List Int} (hb : Byt b) : ∀ {s : Nat}, s < 4294967296 → crcL s b < 4294967296 := by
 induction b with
 | nil => intro s h; rw [crcL_nil]; exact h
 | cons c b ih =>
  intro s h
  rw [crcL_cons]
  exact ih (fun x hx => hb x (List.mem_cons_of_mem _ hx)) (crcB_lt h (hb c List.mem_cons_self))
theorem sumN_lt {b : List Int} (hb : Byt b) : sumN b < 4294967296 := Nat.xor_lt_two_pow (n := 32) (crcL_lt hb (by decide)) (by decide)
theorem crcL_take_succ (s : Nat) (b : List Int) (i : Nat) (hi : i < b.length) : crcL s (b.take (i + 1)) = crcB (crcL s (b.take i)) b[i] := by
 unfold crcL
 rw [List.take_succ_eq_append_getElem hi, List.foldl_append, List.foldl_cons, List.foldl_nil]
theorem crcK_succ (k s : Nat) : crcK (k + 1) s = crc1 (crcK k s) := by
 induction k generalizing s with
 | zero => rfl
 | succ k ih => rw [crcK_one, ih, crcK_one]
def footL (s : Nat) : List Int := [((s / 16777216 : Nat) : Int) % 256, ((s / 65536 : Nat) : Int) % 256, ((s / 256 : Nat) : Int) % 256, (s : Int) % 256]
theorem footL_byt (s : Nat) : Byt (footL s) := by
 intro x hx
 simp only [footL, List.mem_cons, List.not_mem_nil, or_false] at hx
 rcases hx with rfl | rfl | rfl | rfl <;> omega
def sealL (b : List Int) : List Int := varint b.length ++ b ++ footL (sumN (varint b.length ++ b))
theorem crc_prog {s : Nat} (h : s < 4294967296) : Go.bits .xor .u32 (((2 * s % 4294967296 : Nat) : Int)) (((79764919 * (s / 2147483648)) % 4294967296 : Nat) : Int) = (crc1 s : Int) := by
 rw [u32_xor_nat _ _ (Nat.mod_lt _ (by decide)) (Nat.mod_lt _ (by decide))]
 unfold crc1
 split
 ·have h1 : s / 2147483648 = 0 := by omega
  rw [h1, show (79764919 * 0) % 4294967296 = 0 from rfl, Nat.xor_zero, Nat.mod_eq_of_lt (by omega)]
 ·have h1 : s / 2147483648 = 1 := by omega
  have h2 : 2 * s % 4294967296 = 2 * (s - 2147483648) := by omega
  rw [h1, h2]
end Go.Proofs.Ythkpnnbjcendcaa.Pure
end
section
open Go.RowKit Go.Proofs.Ythkpnnbjcendcaa.X Go.Proofs.Ythkpnnbjcendcaa.Pl Go.Proofs.Ythkpnnbjcendcaa.Sp Go.Proofs.Ythkpnnbjcendcaa.Pure Go.Proofs.YthkpnnbjcendcaaW.PrintWords Go.Proofs.YthkpnnbjcendcaaW.PrintLast Go.Proofs.YthkpnnbjcendcaaW.PrintMore
namespace Go.Proofs.Ythkpnnbjcendcaa.Sc
set_option maxHeartbeats 8000000 in
set_option maxRecDepth 100000 in
theorem sum_calls (A0 : Option Addr) (c0 : Nat) (b : List Int) (w : World) (hr0 : Kd.C (Kd.int .u8) w A0 b.length b) (hby : Byt b) (hl : b.length < 4611686018427387904) :
  Calls Try.prog 107 #[.slice A0 b.length c0] w fun e w' => e = .returned (.int .u32 (sumN b : Int)) ∧ Below w.heap.size w w' := by
 have HB := Aside0.mk (Below.refl w.heap.size w)
 have HR := Aside0.mk hr0
 have HBY := Aside0.mk hby
 have HL := Aside0.mk hl
 clear hr0 hby hl
 go_enter Try.func107, Try.ntmps107
 go_wp2
 go_loopg [3, 5, 6, 9, 18] b.length (fun kq v3 _ _ v9 _ w' => ∃ i s : Nat, v3 = .int .u32 (s : Int) ∧ v9 = .int .i64 (i : Int) ∧ Aside0 (kq + i = b.length ∧ s = crcL 4294967295 (b.take i)) ∧ Aside0 (Below w.heap.size w w'))
 case atStart => exact ⟨0, 4294967295, rfl, rfl, ⟨by omega, by rw [List.take_zero, crcL_nil]⟩, HB⟩
 case round =>
  clear HB
  obtain ⟨i, s, rfl, rfl, HI, HB⟩ := hrel
  by_cases hlt : i < b.length
  ·obtain ⟨k1, rfl⟩ : ∃ q, gk = q + 1 := ⟨gk - 1, by have := HI.out.1; omega⟩
   have c1b : decide ((i : Int) < (b.length : Int)) = true := decide_eq_true (by omega)
   have c1n : decide (i < b.length) = true := decide_eq_true hlt
   have hnx : wrap64 ((i : Int) + 1) = ((i + 1 : Nat) : Int) := by have := HL.out; rw [w64 (by omega) (by omega)]; simp
   have hby := HBY.out (b.getD i 0) (by rw [getD_lt _ _ _ hlt]; exact List.getElem_mem _)
   obtain ⟨x, hx⟩ : ∃ x : Nat, b.getD i 0 = (x : Int) := ⟨(b.getD i 0).toNat, by omega⟩
   have hx256 : x < 256 := by omega
   obtain ⟨ad, e1, hx0⟩ := Kd.at_int HR.out (i : Int) (by omega) (by omega)
   cases e1
   rw [Int.toNat_natCast, rd_get, hx] at hx0
   replace hx0 := (HB.out.cell (World.block_lt_of_cell? w _ hx0)).trans hx0
   have hs := crcL_lt (b := b.take i) (fun y hy => HBY.out y (List.mem_of_mem_take hy)) (s := 4294967295) (by omega)
   rw [← HI.out.2] at hs
   obtain ⟨z, hz⟩ : ∃ z, z = x * 16777216 := ⟨_, rfl⟩
   obtain ⟨y, hy⟩ : ∃ y, y = s ^^^ z := ⟨_, rfl⟩
   have f0 : IntKind.u32.wrap (x : Int) = (x : Int) := by rw [IntKind.wrap_u32']; omega
   have f1 : IntKind.u32.wrap ((x : Int) * 2 ^ 24) = (z : Int) := by rw [IntKind.wrap_u32']; omega
   have f1b : IntKind.u32.wrap ((x : Int) * 16777216) = (z : Int) := by rw [IntKind.wrap_u32']; omega
   have f1c : (x : Int) * 16777216 % 4294967296 = (z : Int) := by omega
   have f1d : (x : Int) % 4294967296 = (x : Int) := by omega
   have f2 : Go.bits .xor .u32 (s : Int) (z : Int) = (y : Int) := by rw [u32_xor_nat _ _ hs (by omega), hy]
   have hbi : b[i] = (x : Int) := by rw [← hx, getD_lt _ _ _ hlt]
   have HY := Aside0.mk (show crcK 8 y = crcL 4294967295 (b.take (i + 1)) by
    rw [crcL_take_succ _ _ _ hlt, ← HI.out.2, hbi]
    unfold crcB
    rw [Int.toNat_natCast, ← hz, ← hy])
   have HYL := Aside0.mk (show y < 4294967296 from hy ▸ Nat.xor_lt_two_pow (n := 32) hs (by omega))
   have HX := Aside0.mk hnx
   have HLT := Aside0.mk hlt
   have c4 := eq_true hlt
   have c5 := eq_true (show (i : Int) < (b.length : Int) by omega)
   have c6 := eq_true (show 0 ≤ (i : Int) by omega)
   clear hnx hlt hby hx hx256 hs hz hy hbi
   go_wp2
   go_loopg [3, 6, 18] 8 (fun kq v3 _ v18 w' => ∃ k t : Nat, v3 = .int .u32 (t : Int) ∧ v18 = .int .i64 (k : Int) ∧ Aside0 (kq + k = 8 ∧ t = crcK k y) ∧ Aside0 (Below w.heap.size w w'))
   case atStart => exact ⟨0, y, rfl, rfl, ⟨by omega, (crcK_zero y).symm⟩, HB⟩
   case round =>
    clear HB
    obtain ⟨k, t, rfl, rfl, HK, HB⟩ := hrel
    by_cases hk : k < 8
    ·obtain ⟨k2, rfl⟩ : ∃ q, gk = q + 1 := ⟨gk - 1, by have := HK.out.1; omega⟩
     have d1b : decide ((k : Int) < 8) = true := decide_eq_true (by omega)
     have d1n : decide (k < 8) = true := decide_eq_true hk
     have hnk : wrap64 ((k : Int) + 1) = ((k + 1 : Nat) : Int) := by rw [w64 (by omega) (by omega)]; simp
     have htl := crcK_lt k HYL.out
     rw [← HK.out.2] at htl
     obtain ⟨a, ha⟩ : ∃ a, a = t / 2147483648 := ⟨_, rfl⟩
     obtain ⟨t2, ht2⟩ : ∃ a, a = 2 * t % 4294967296 := ⟨_, rfl⟩
     obtain ⟨pa, hpa⟩ : ∃ p, p = 79764919 * a % 4294967296 := ⟨_, rfl⟩
     obtain ⟨t', ht'⟩ : ∃ x, x = crc1 t := ⟨_, rfl⟩
     have g1 : (t : Int) / 2 ^ 31 = (a : Int) := by omega
     have g1b : (t : Int) / 2147483648 = (a : Int) := by omega
     have g2 : IntKind.u32.wrap ((t : Int) * 2 ^ 1) = (t2 : Int) := by rw [IntKind.wrap_u32']; omega
     have g2b : IntKind.u32.wrap ((t : Int) * 2) = (t2 : Int) := by rw [IntKind.wrap_u32']; omega
     have g3 : IntKind.u32.wrap (79764919 * (a : Int)) = (pa : Int) := by rw [IntKind.wrap_u32']; omega
     have g4 : Go.bits .xor .u32 (t2 : Int) (pa : Int) = (t' : Int) := by
      have := crc_prog htl
      rw [← ha, ← hpa, ← ht2, ← ht'] at this
      exact this
     have HN := Aside0.mk (show t' = crcK (k + 1) y by rw [crcK_succ, ← HK.out.2, ht'])
     have HXK := Aside0.mk hnk
     clear hnk hk htl ha ht2 hpa ht'
     go_wp2
     go_roundg k2
     case measure => omega
     case rel => exact ⟨k + 1, t', rfl, (by first | rfl | rw [HXK.out]), ⟨by have := HK.out.1; omega, HN.out⟩, HB⟩
    ·have d1b : decide ((k : Int) < 8) = false := decide_eq_false (by omega)
     have d1n : decide (k < 8) = false := decide_eq_false hk
     have hk8 : k = 8 := by have := HK.out.1; omega
     have HN := Aside0.mk (show t = crcL 4294967295 (b.take (i + 1)) by rw [HK.out.2, hk8]; exact HY.out)
     clear hk hk8
     go_wp2
     go_roundg k1
     case measure => omega
     case rel => exact ⟨i + 1, t, rfl, (by first | rfl | rw [HX.out]), ⟨by have := HI.out.1; omega, HN.out⟩, HB⟩
  ·have c1b : decide ((i : Int) < (b.length : Int)) = false := decide_eq_false (by omega)
   have c1n : decide (i < b.length) = false := decide_eq_false hlt
   have hs := crcL_lt (b := b.take i) (fun y hy => HBY.out y (List.mem_of_mem_take hy)) (s := 4294967295) (by omega)
   rw [← HI.out.2] at hs
   obtain ⟨r, hr⟩ : ∃ r, r = s ^^^ 4294967295 := ⟨_, rfl⟩
   have HE := Aside0.mk (show sumN b = r by
    unfold sumN
    rw [hr, HI.out.2, List.take_of_length_le (by omega)])
   have f2 : Go.bits .xor .u32 (s : Int) 4294967295 = (r : Int) := by
    have := u32_xor_nat s 4294967295 hs (by omega)
    rw [hr]
    exact this
   have f3 : Go.bits .xor .u32 4294967295 (s : Int) = (r : Int) := by
    have := u32_xor_nat 4294967295 s (by omega) hs
    rw [hr, Nat.xor_comm]
    exact this
   have f5 : Go.bits .xor .u32 IntKind.u32.max (s : Int) = (r : Int) := by rw [show IntKind.u32.max = (4294967295 : Int) from rfl]; exact f3
   clear hlt hs hr
   go_wp2
   go_ret
   exact ⟨by rw [HE.out]; try rfl, HB.out⟩
end Go.Proofs.Ythkpnnbjcendcaa.Sc
namespace Go.Proofs.Ythkpnnbjcendcaa.Pure
def okCs : Int → List S109 → Bool
 | _, [] => true
 | p, c :: l => decide (p < c.f0) && decide (c.f0 < 4096) && decide (1 ≤ c.f1.length) && decide (c.f1.length ≤ 1024) && rightB c.f1 && okCs c.f0 l
def rightC (l : List S109) : Bool := okCs (-1) l && decide (1 ≤ l.length) && decide (l.length ≤ 200)
theorem rd109_at (l : List S109) (i : Nat) (h : i < l.length) : rd_T109 l (i : Int) = l[i] := by
 unfold rd_T109; rw [Int.toNat_natCast]; exact getD_lt l i _ h
theorem okCs_step {p : Int} {l : List S109} {i : Nat} (h : i < l.length) : okCs p (l.drop i) = (decide (p < l[i].f0) && decide (l[i].f0 < 4096) && decide (1 ≤ l[i].f1.length) && decide (l[i].f1.length ≤ 1024) && rightB l[i].f1 && okCs l[i].f0 (l.drop (i + 1))) := by
 rw [List.drop_eq_getElem_cons h, okCs]
end Go.Proofs.Ythkpnnbjcendcaa.Pure
namespace Go.Proofs.Ythkpnnbjcendcaa.Sc
theorem refright_q (A0 : Option Addr) (c0 n : Nat) (l0 : List S52) (b : Bool) (w : World) (hn : l0.length = n) (hb : rightB l0 = b) (hr0 : Kd.C k52 w A0 n l0) (hc0 : n ≤ c0) (hl : n < 4611686018427387904) :
  Calls Try.prog 34 #[.slice A0 n c0] w fun e w' => e = .returned (.bool b) ∧ ∃ m, w' = w.drewN m := by
 subst hn hb
 obtain ⟨K, hK⟩ := ref_right_ev l0 hl
 refine (marigraphref04_Right.calls K A0 c0 l0 _ w hr0 hc0 (hK K (Nat.le_refl _))).mono ?_
 rintro e w' ⟨rfl, hd⟩
 exact ⟨rfl, hd.out⟩
set_option maxHeartbeats 16000000 in
set_option maxRecDepth 100000 in
theorem rright9_calls (A0 : Option Addr) (c0 : Nat) (l0 : List S109) (w : World) (hr0 : Kd.C k109 w A0 l0.length l0) (hl : l0.length < 1000000000) (hE : ∀ c ∈ l0, c.f1.length < 1000000000) :
  Calls Try.prog 56 #[.slice A0 l0.length c0] w fun e w' => e = .returned (.bool (rightC l0)) ∧ Below w.heap.size w w' := by
 have HB := Aside0.mk (Below.refl w.heap.size w)
 have HR := Aside0.mk hr0
 have HL := Aside0.mk hl
 have HE := Aside0.mk hE
 clear hr0 hl hE
 go_enter Try.func56, Try.ntmps56
 go_wp2
 go_loopg [3, 4] l0.length (fun kq v3 _ w' => ∃ i : Nat, v3 = .int .i64 (i : Int) ∧ Aside0 (kq + i = l0.length ∧ (0 < i → 0 ≤ (rd_T109 l0 ((i - 1 : Nat) : Int)).f0) ∧ okCs (-1) l0 = okCs (if i = 0 then -1 else (rd_T109 l0 ((i - 1 : Nat) : Int)).f0) (l0.drop i)) ∧ Aside0 (Below w.heap.size w w'))
 case atStart => exact ⟨0, rfl, ⟨by omega, fun h => absurd h (Nat.lt_irrefl 0), by simp⟩, HB⟩
 case round =>
  clear HB
  obtain ⟨i, rfl, HI, HB⟩ := hrel
  by_cases hlt : i < l0.length
  ·obtain ⟨k1, rfl⟩ : ∃ q, gk = q + 1 := ⟨gk - 1, by have := HI.out.1; omega⟩
   have c1b : decide ((i : Int) < (l0.length : Int)) = true := decide_eq_true (by omega)
   have c1n : decide (i < l0.length) = true := decide_eq_true hlt
   have hnx : wrap64 ((i : Int) + 1) = ((i + 1 : Nat) : Int) := by have := HL.out; rw [w64 (by omega) (by omega)]; simp
   obtain ⟨ad, A1, c1, e1, hx0, hx1, hl1, hC1⟩ := at_T109 HR.out (i : Int) (by omega) (by omega)
   cases e1
   rw [Int.toNat_natCast] at hx0 hx1
   replace hx0 := (HB.out.cell (World.block_lt_of_cell? w _ hx0)).trans hx0
   replace hx1 := (HB.out.cell (World.block_lt_of_cell? w _ hx1)).trans hx1
   have hE1 := HE.out l0[i] (List.getElem_mem hlt)
   have hrd := rd109_at l0 i hlt
   rw [hrd] at hx0 hx1 hl1 hC1
   obtain ⟨x, hx⟩ : ∃ x, x = l0[i].f0 := ⟨_, rfl⟩
   obtain ⟨ps, hps⟩ : ∃ x, x = l0[i].f1 := ⟨_, rfl⟩
   obtain ⟨n, hn⟩ : ∃ n, n = ps.length := ⟨_, rfl⟩
   obtain ⟨rb, hrb⟩ : ∃ b, rightB ps = b := ⟨_, rfl⟩
   have hst := okCs_step (p := if i = 0 then -1 else (rd_T109 l0 ((i - 1 : Nat) : Int)).f0) hlt
   rw [← hx, ← hps, hrb, ← hn] at hst
   rw [← hx] at hx0
   rw [← hps, ← hn] at hx1 hl1 hC1 hE1
   have hpv : 0 < i → ∃ y : Int, y = (rd_T109 l0 ((i - 1 : Nat) : Int)).f0 ∧ 0 ≤ y ∧ wr.cell? (ad.add ((i - 1) * 2)) = some (.int .i64 y) ∧ wrap64 ((i : Int) - 1) = ((i - 1 : Nat) : Int) ∧ (((i - 1 : Nat) : Int) < (l0.length : Int)) = True ∧ (i - 1 < l0.length) = True := fun h0 => by
    obtain ⟨ad2, A2, c2, e2, hy0, _, _, _⟩ := at_T109 HR.out ((i - 1 : Nat) : Int) (by omega) (by omega)
    injection e2 with e2
    subst e2
    rw [Int.toNat_natCast] at hy0
    exact ⟨_, rfl, HI.out.2.1 h0, (HB.out.cell (World.block_lt_of_cell? w _ hy0)).trans hy0, by have := HL.out; rw [w64 (by omega) (by omega)]; omega, eq_true (by omega), eq_true (by omega)⟩
   have HX := Aside0.mk hnx
   have HRD := Aside0.mk (show (rd_T109 l0 ((i + 1 - 1 : Nat) : Int)).f0 = x by rw [Nat.add_sub_cancel, hrd, hx])
   have HC1 := Aside0.mk hC1
   have HL1 := Aside0.mk hl1
   have HRB := Aside0.mk hrb
   have HN := Aside0.mk hn.symm
   have HNL := Aside0.mk (show n < 4611686018427387904 by omega)
   have c4 := eq_true hlt
   have c5 := eq_true (show (i : Int) < (l0.length : Int) by omega)
   have c6 := eq_true (show 0 ≤ (i : Int) by omega)
   obtain ⟨y, hy⟩ : ∃ y : Int, y = if i = 0 then -1 else (rd_T109 l0 ((i - 1 : Nat) : Int)).f0 := ⟨_, rfl⟩
   have hyy := HI.out.2.2
   rw [← hy] at hst hyy
   rw [hst] at hyy
   have hyge : -1 ≤ y := by
    rw [hy]
    split
    ·omega
    ·have := HI.out.2.1 (by omega); omega
   have hgo : y < x → x < 4096 → 1 ≤ n → n ≤ 1024 → rb = true → 0 ≤ x ∧ okCs (-1) l0 = okCs x (l0.drop (i + 1)) := fun h1 h2 h3 h4 h5 => by
    refine ⟨by omega, ?_⟩
    rw [hyy, decide_eq_true h1, decide_eq_true h2, decide_eq_true h3, decide_eq_true h4, h5]
    simp
   have hno : ¬ (y < x ∧ x < 4096 ∧ 1 ≤ n ∧ n ≤ 1024 ∧ rb = true) → rightC l0 = false := fun h => by
    have : okCs (-1) l0 = false := by
     rw [hyy]
     by_cases h1 : y < x
     ·by_cases h2 : x < 4096
      ·by_cases h3 : 1 ≤ n
       ·by_cases h4 : n ≤ 1024
        ·have h5 : rb = false := by
          cases rb
          ·rfl
          ·exact absurd ⟨h1, h2, h3, h4, rfl⟩ h
         rw [h5]; simp
        ·rw [decide_eq_false h4]; simp
       ·rw [decide_eq_false h3]; simp
      ·rw [decide_eq_false h2]; simp
     ·rw [decide_eq_false h1]; simp
    unfold rightC
    rw [this]; rfl
   have HGO := Aside0.mk hgo
   have HNO := Aside0.mk hno
   clear hnx hrd hx hps hn hrb hst hyy hgo hno hC1 hl1 hE1
   by_cases g1 : x < 0
   ·have t1 : decide (x < 0) = true := decide_eq_true g1
    clear hpv
    go_wp2
    repeat (go_quiet (fail); try go_wp2)
    go_ret
    exact ⟨by rw [HNO.out (by rintro ⟨h, _⟩; omega)]; try rfl, (by repeat (first | exact HB.out | apply below_alloc | apply pw_below_drewN | apply below_drew1))⟩
   ·have t1 : decide (x < 0) = false := decide_eq_false g1
    by_cases g2 : 4096 ≤ x
    ·have t2 : decide (4096 ≤ x) = true := decide_eq_true g2
     clear hpv
     go_wp2
     repeat (go_quiet (fail); try go_wp2)
     go_ret
     exact ⟨by rw [HNO.out (by rintro ⟨_, h, _⟩; omega)]; try rfl, (by repeat (first | exact HB.out | apply below_alloc | apply pw_below_drewN | apply below_drew1))⟩
    ·have t2 : decide (4096 ≤ x) = false := decide_eq_false g2
     by_cases g3 : 0 < i
     ·obtain ⟨y', hy', hy0, hyc, hyw, k7, k8⟩ := hpv g3
      have hyy : y = y' := by rw [hy, if_neg (by omega), hy']
      clear hpv hy hy'
      have t3 : decide ((0 : Int) < (i : Int)) = true := decide_eq_true (by omega)
      have t3n : decide (0 < i) = true := decide_eq_true g3
      have k9 := eq_true (show 0 ≤ ((i - 1 : Nat) : Int) by omega)
      obtain ⟨i', hi'⟩ : ∃ i', i' = i - 1 := ⟨_, rfl⟩
      rw [← hi'] at hyc hyw k7 k8 k9
      clear hi'
      by_cases g4 : x ≤ y'
      ·have t4 : decide (x ≤ y') = true := decide_eq_true g4
       go_wp2
       repeat (go_quiet (fail); try go_wp2)
       go_ret
       exact ⟨by rw [HNO.out (by rintro ⟨h, _⟩; omega)]; try rfl, (by repeat (first | exact HB.out | apply below_alloc | apply pw_below_drewN | apply below_drew1))⟩
      ·have t4 : decide (x ≤ y') = false := decide_eq_false g4
       by_cases g5 : n < 1
       ·have t5 : decide ((n : Int) < 1) = true := decide_eq_true (by omega)
        have t5n : decide (n < 1) = true := decide_eq_true g5
        go_wp2
        repeat (go_quiet (fail); try go_wp2)
        go_ret
        exact ⟨by rw [HNO.out (by rintro ⟨_, _, h, _⟩; omega)]; try rfl, (by repeat (first | exact HB.out | apply below_alloc | apply pw_below_drewN | apply below_drew1))⟩
       ·have t5 : decide ((n : Int) < 1) = false := decide_eq_false (by omega)
        have t5n : decide (n < 1) = false := decide_eq_false g5
        by_cases g6 : 1024 < n
        ·have t6 : decide ((1024 : Int) < (n : Int)) = true := decide_eq_true (by omega)
         have t6n : decide (1024 < n) = true := decide_eq_true g6
         go_wp2
         repeat (go_quiet (fail); try go_wp2)
         go_ret
         exact ⟨by rw [HNO.out (by rintro ⟨_, _, _, h, _⟩; omega)]; try rfl, (by repeat (first | exact HB.out | apply below_alloc | apply pw_below_drewN | apply below_drew1))⟩
        ·have t6 : decide ((1024 : Int) < (n : Int)) = false := decide_eq_false (by omega)
         have t6n : decide (1024 < n) = false := decide_eq_false g6
         cases rb
         ·go_wp2
          repeat (go_quiet (first | (go_at_call 34; exact Calls.quiet_of (refright_q A1 c1 n ps _ _ HN.out HRB.out (Kd.C_below HC1.out (by repeat (first | exact HB.out | apply below_alloc | apply pw_below_drewN | apply below_drew1))) HL1.out HNL.out))); try go_wp2)
          go_ret
          exact ⟨by rw [HNO.out (by rintro ⟨_, _, _, _, h⟩; cases h)]; try rfl, (by repeat (first | exact HB.out | apply below_alloc | apply pw_below_drewN | apply below_drew1))⟩
         ·have HG := Aside0.mk (HGO.out (by omega) (by omega) (by omega) (by omega) rfl)
          go_wp2
          repeat (go_quiet (first | (go_at_call 34; exact Calls.quiet_of (refright_q A1 c1 n ps _ _ HN.out HRB.out (Kd.C_below HC1.out (by repeat (first | exact HB.out | apply below_alloc | apply pw_below_drewN | apply below_drew1))) HL1.out HNL.out))); try go_wp2)
          go_roundg k1
          case measure => omega
          case rel => exact ⟨i + 1, (by first | rfl | rw [HX.out]), ⟨by have := HI.out.1; omega, fun _ => by rw [HRD.out]; exact HG.out.1, by rw [if_neg (by omega), HRD.out]; exact HG.out.2⟩, ⟨(by repeat (first | exact HB.out | apply below_alloc | apply pw_below_drewN | apply below_drew1))⟩⟩
     ·have t3 : decide ((0 : Int) < (i : Int)) = false := decide_eq_false (by omega)
      have t3n : decide (0 < i) = false := decide_eq_false g3
      have hyy : y = -1 := by rw [hy, if_pos (by omega)]
      clear hpv hy
      by_cases g5 : n < 1
      ·have t5 : decide ((n : Int) < 1) = true := decide_eq_true (by omega)
       have t5n : decide (n < 1) = true := decide_eq_true g5
       go_wp2
       repeat (go_quiet (fail); try go_wp2)
       go_ret
       exact ⟨by rw [HNO.out (by rintro ⟨_, _, h, _⟩; omega)]; try rfl, (by repeat (first | exact HB.out | apply below_alloc | apply pw_below_drewN | apply below_drew1))⟩
      ·have t5 : decide ((n : Int) < 1) = false := decide_eq_false (by omega)
       have t5n : decide (n < 1) = false := decide_eq_false g5
       by_cases g6 : 1024 < n
       ·have t6 : decide ((1024 : Int) < (n : Int)) = true := decide_eq_true (by omega)
        have t6n : decide (1024 < n) = true := decide_eq_true g6
        go_wp2
        repeat (go_quiet (fail); try go_wp2)
        go_ret
        exact ⟨by rw [HNO.out (by rintro ⟨_, _, _, h, _⟩; omega)]; try rfl, (by repeat (first | exact HB.out | apply below_alloc | apply pw_below_drewN | apply below_drew1))⟩
       ·have t6 : decide ((1024 : Int) < (n : Int)) = false := decide_eq_false (by omega)
        have t6n : decide (1024 < n) = false := decide_eq_false g6
        cases rb
        ·go_wp2
         repeat (go_quiet (first | (go_at_call 34; exact Calls.quiet_of (refright_q A1 c1 n ps _ _ HN.out HRB.out (Kd.C_below HC1.out (by repeat (first | exact HB.out | apply below_alloc | apply pw_below_drewN | apply below_drew1))) HL1.out HNL.out))); try go_wp2)
         go_ret
         exact ⟨by rw [HNO.out (by rintro ⟨_, _, _, _, h⟩; cases h)]; try rfl, (by repeat (first | exact HB.out | apply below_alloc | apply pw_below_drewN | apply below_drew1))⟩
        ·have HG := Aside0.mk (HGO.out (by omega) (by omega) (by omega) (by omega) rfl)
         go_wp2
         repeat (go_quiet (first | (go_at_call 34; exact Calls.quiet_of (refright_q A1 c1 n ps _ _ HN.out HRB.out (Kd.C_below HC1.out (by repeat (first | exact HB.out | apply below_alloc | apply pw_below_drewN | apply below_drew1))) HL1.out HNL.out))); try go_wp2)
         go_roundg k1
         case measure => omega
         case rel => exact ⟨i + 1, (by first | rfl | rw [HX.out]), ⟨by have := HI.out.1; omega, fun _ => by rw [HRD.out]; exact HG.out.1, by rw [if_neg (by omega), HRD.out]; exact HG.out.2⟩, ⟨(by repeat (first | exact HB.out | apply below_alloc | apply pw_below_drewN | apply below_drew1))⟩⟩
  ·have c1b : decide ((i : Int) < (l0.length : Int)) = false := decide_eq_false (by omega)
   have c1n : decide (i < l0.length) = false := decide_eq_false hlt
   have hok : okCs (-1) l0 = true := by
    rw [HI.out.2.2, List.drop_eq_nil_of_le (by omega)]; rfl
   have hR : rightC l0 = (decide (1 ≤ l0.length) && decide (l0.length ≤ 200)) := by unfold rightC; rw [hok]; rfl
   have hcs : (decide ((1 : Int) ≤ (l0.length : Int)) = true ∧ decide (1 ≤ l0.length) = true ∧ (decide ((l0.length : Int) ≤ 200) = rightC l0) ∧ decide (l0.length ≤ 200) = rightC l0) ∨ (decide ((1 : Int) ≤ (l0.length : Int)) = false ∧ decide (1 ≤ l0.length) = false ∧ rightC l0 = false) := by
    by_cases h1 : 1 ≤ l0.length
    ·refine .inl ⟨decide_eq_true (by omega), decide_eq_true h1, ?_, ?_⟩
     ·rw [hR, decide_eq_true h1, Bool.true_and]
      by_cases h2 : l0.length ≤ 200
      ·rw [decide_eq_true h2, decide_eq_true (by omega)]
      ·rw [decide_eq_false h2, decide_eq_false (by omega)]
     ·rw [hR, decide_eq_true h1, Bool.true_and]
    ·exact .inr ⟨decide_eq_false (by omega), decide_eq_false h1, by rw [hR, decide_eq_false h1]; rfl⟩
   obtain ⟨R, hRR⟩ : ∃ R, R = rightC l0 := ⟨_, rfl⟩
   rw [← hRR] at hcs
   have HRR := Aside0.mk hRR
   clear hlt hok hR hRR
   rcases hcs with ⟨h1, h2, h3, h4⟩ | ⟨h1, h2, rfl⟩
   ·go_wp2
    go_ret
    exact ⟨by rw [← HRR.out]; first | rfl | simp, HB.out⟩
   ·go_wp2
    go_ret
    exact ⟨by rw [← HRR.out]; first | rfl | simp, HB.out⟩
end Go.Proofs.Ythkpnnbjcendcaa.Sc
namespace Go.Proofs.Ythkpnnbjcendcaa.X
def octs_Put.f (l0 : List Int) (a1 : Int) : Option (List Int) := if l0.length ≤ 100000000 ∧ 0 ≤ a1 ∧ a1 < 18446744073709551616 then some (l0 ++ varint a1.toNat) else none
def bytB (l : List Int) : Bool := l.all fun x => decide (0 ≤ x) && decide (x ≤ 255)
theorem bytB_iff (l : List Int) : bytB l = true ↔ Byt l := by
 unfold bytB Byt
 rw [List.all_eq_true]
 simp only [Bool.and_eq_true, decide_eq_true_eq]
def seal_Sum.f (l0 : List Int) : Option Int := if l0.length < 4611686018427387904 ∧ bytB l0 = true then some (sumN l0 : Int) else none
end Go.Proofs.Ythkpnnbjcendcaa.X
end
section
namespace Go.Proofs.Ythkpnnbjcendcaa.X
open Go.RowKit Go.Proofs.YthkpnnbjcendcaaW.PrintWords Go.Proofs.YthkpnnbjcendcaaW.PrintLast Go.Proofs.YthkpnnbjcendcaaW.PrintMore
attribute [local go_sem] max2_int min2_int max_two min_two max_three min_three max_four min_four
def block_Right.l0 : Nat → List (S109) → Int → List (S109) → Int → Int → Option (Bool)
 | 0, _, _, _, _, _ => none
 | k + 1, x0, x3, x6, x7, x8 => if x8 < x7 then (if 0 ≤ x8 then (if x8 < (x6.length : Int) then (if ((rd_T109 x6 x8).f0) ≤ x3 then (some false) else (if ((rd_T109 x6 x8).f0) ≥ 4096 then (some false) else (if (((rd_T109 x6 x8).f1).length : Int) = 0 then (some false) else (if (((rd_T109 x6 x8).f1).length : Int) > 1024 then (some false) else ((steps_Right.f k ((rd_T109 x6 x8).f1)).bind fun t336 => (if t336 = true then (block_Right.l0 k x0 ((rd_T109 x6 x8).f0) x6 x7 (wrap64 (x8 + 1))) else (some false))))))) else (none)) else (none)) else (if (x0.length : Int) > 0 then (some (decide ((x0.length : Int) ≤ 200))) else (some false))
def block_Right.f (k : Nat) (l0 : List (S109)) : Option (Bool) := block_Right.l0 k l0 (-1) l0 (l0.length : Int) 0
set_option maxHeartbeats 8000000 in
set_option maxRecDepth 100000 in
theorem block_Right.calls (k : Nat) (A0 : Option Addr) (c0 : Nat) (l0 : List (S109)) (r : Bool) (w : World) (hr0 : Kd.C k109 w A0 l0.length l0) (hc0 : l0.length ≤ c0) (h : block_Right.f k l0 = some r) :
  Calls Try.prog 55 #[.slice A0 l0.length c0] w fun e w' => e = .returned (.bool r) ∧ Below w.heap.size w w' := by
 have hu109 := Try.underlying109
 have HR0 := Aside0.mk hr0
 have HC0 := Aside0.mk hc0
 clear hr0 hc0
 have HB := Aside0.mk (Below.refl w.heap.size w)
 have H : (block_Right.l0 k l0 (-1) l0 (l0.length : Int) 0) = some r := h
 clear h
 have H' := Aside0.mk H
 clear H
 go_enter Try.func55, Try.ntmps55
 go_wp2
 go_loopg [3, 8] k (fun kq v3 v8 w' => ∃ (x3_1 : Int) (x8_1 : Int), v3 = .int .i64 x3_1 ∧ v8 = .int .i64 x8_1 ∧ Aside0 (block_Right.l0 kq l0 x3_1 l0 (l0.length : Int) x8_1 = some r) ∧ Aside0 (kq ≤ k) ∧ Aside0 (Below w.heap.size w w'))
 case atStart => exact ⟨((-1)), (0), (by first | rfl | (simp; done) | (simp [*]; done) | (simp <;> grind)), (by first | rfl | (simp; done) | (simp [*]; done) | (simp <;> grind)), H', ⟨Nat.le_refl _⟩, ⟨by repeat (first | exact HB.out | apply below_alloc | apply pw_below_drewN | apply below_drew1)⟩⟩
 case round =>
  clear H'
  obtain ⟨x3_1, x8_1, rfl, rfl, HA, HK1, HB⟩ := hrel
  cases gk with
  | zero => exact absurd HA.out (by simp [block_Right.l0])
  | succ k1 =>
   have H := HA.out
   clear HA
   simp only [block_Right.l0] at H
   by_cases c2 : x8_1 < (l0.length : Int)
   ·rw [if_pos c2] at H
    have c2b0 : decide (x8_1 < (l0.length : Int)) = true := decide_eq_true c2
    clear c2
    by_cases c3 : 0 ≤ x8_1
    ·rw [if_pos c3] at H
     have c3b0 : decide (0 ≤ x8_1) = true := decide_eq_true c3
     clear c3
     by_cases c4 : x8_1 < (l0.length : Int)
     ·rw [if_pos c4] at H
      have c4b0 : decide (x8_1 < (l0.length : Int)) = true := decide_eq_true c4
      clear c4
      by_cases c5 : ((rd_T109 l0 x8_1).f0) ≤ x3_1
      ·rw [if_pos c5] at H
       have c5b0 : decide (((rd_T109 l0 x8_1).f0) ≤ x3_1) = true := decide_eq_true c5
       clear c5
       obtain rfl := Option.some.inj H
       have p334 : 0 ≤ (x8_1 : Int) := of_decide_eq_true (by first | (with_reducible assumption) | assumption)
       have q334 : x8_1 < (l0.length : Int) := of_decide_eq_true (by first | (with_reducible assumption) | assumption)
       obtain ⟨ad334, A334_1, c334_1, e334, hx334_0, hx334_1, hl334_1, hi334_1⟩ := at_T109 HR0.out x8_1 p334 q334
       cases e334
       replace hx334_0 := (HB.out.cell (World.block_lt_of_cell? w _ hx334_0)).trans hx334_0
       replace hx334_1 := (HB.out.cell (World.block_lt_of_cell? w _ hx334_1)).trans hx334_1
       have HR334_1 := Aside0.mk hi334_1
       have HC334_1 := Aside0.mk hl334_1
       clear hi334_1 hl334_1
       replace p334 := eq_true p334
       replace q334 := eq_true q334
       go_wp2_with (first | ((with_reducible refine gate_dst (N := 5) rfl ?_); refine box_event ?hg (N := 5) ?hd (cs := #[.int .i64 0, .slice none 0 0]) (t := 109) ?hr ?_; (case hd => rfl); (case hg => rfl); (case hr => first | (go_simp; done) | (go_simp; rfl)); intro gb335 hg w6 hbox hb; have n0_ := Aside0.mk (below_step (by repeat (first | exact HB.out | apply below_alloc | apply pw_below_drewN | apply below_drew1)) hb); have n1_ := Aside0.mk (hbox); have n2_ := Aside0.mk ((by rw [hg]; exact (below_size (by repeat (first | exact HB.out | apply below_alloc | apply pw_below_drewN | apply below_drew1))) : w.heap.size ≤ gb335)); have n3_ := Aside0.mk ((by rw [hg]; exact (below_size (by repeat (first | exact HB.out | apply below_alloc | apply pw_below_drewN | apply below_drew1))) : w.heap.size ≤ gb335)); clear HB; have HB := n0_; have BK335 := n1_; have GW335 := n2_; have GE335 := n3_; clear n0_ n1_ n2_ n3_; clear hb hbox hg; have hcz7_0 : w6.cell? ⟨gb335, 0, none⟩ = some (.int .i64 0) := (blk_cell BK335.out 0).trans rfl; have hcz7_1 : w6.cell? ⟨gb335, 1, none⟩ = some (.slice none 0 0) := (blk_cell BK335.out 1).trans rfl; have hfz7_0 := blk_frozen BK335.out 0; have hfz7_1 := blk_frozen BK335.out 1))
       go_ret
       exact ⟨by first | rfl | (simp [errW_none, errW_some] <;> rfl) | (simp [*, errW_none, errW_some] <;> rfl), by repeat (first | (with_reducible first | exact HB.out | apply below_alloc | apply pw_below_drewN | apply below_drew1 | refine below_set ?_ GE335.out) | exact HB.out)⟩
      ·rw [if_neg c5] at H
       have c5b0 : decide (((rd_T109 l0 x8_1).f0) ≤ x3_1) = false := decide_eq_false c5
       clear c5
       by_cases c8 : ((rd_T109 l0 x8_1).f0) ≥ 4096
       ·rw [if_pos c8] at H
        have c8b0 : decide (4096 ≤ ((rd_T109 l0 x8_1).f0)) = true := decide_eq_true c8
        clear c8
        obtain rfl := Option.some.inj H
        have p334 : 0 ≤ (x8_1 : Int) := of_decide_eq_true (by first | (with_reducible assumption) | assumption)
        have q334 : x8_1 < (l0.length : Int) := of_decide_eq_true (by first | (with_reducible assumption) | assumption)
        obtain ⟨ad334, A334_1, c334_1, e334, hx334_0, hx334_1, hl334_1, hi334_1⟩ := at_T109 HR0.out x8_1 p334 q334
        cases e334
        replace hx334_0 := (HB.out.cell (World.block_lt_of_cell? w _ hx334_0)).trans hx334_0
        replace hx334_1 := (HB.out.cell (World.block_lt_of_cell? w _ hx334_1)).trans hx334_1
        have HR334_1 := Aside0.mk hi334_1
        have HC334_1 := Aside0.mk hl334_1
        clear hi334_1 hl334_1
        replace p334 := eq_true p334
        replace q334 := eq_true q334
        go_wp2_with (first | ((with_reducible refine gate_dst (N := 5) rfl ?_); refine box_event ?hg (N := 5) ?hd (cs := #[.int .i64 0, .slice none 0 0]) (t := 109) ?hr ?_; (case hd => rfl); (case hg => rfl); (case hr => first | (go_simp; done) | (go_simp; rfl)); intro gb335 hg w9 hbox hb; have n0_ := Aside0.mk (below_step (by repeat (first | exact HB.out | apply below_alloc | apply pw_below_drewN | apply below_drew1)) hb); have n1_ := Aside0.mk (hbox); have n2_ := Aside0.mk ((by rw [hg]; exact (below_size (by repeat (first | exact HB.out | apply below_alloc | apply pw_below_drewN | apply below_drew1))) : w.heap.size ≤ gb335)); have n3_ := Aside0.mk ((by rw [hg]; exact (below_size (by repeat (first | exact HB.out | apply below_alloc | apply pw_below_drewN | apply below_drew1))) : w.heap.size ≤ gb335)); clear HB; have HB := n0_; have BK335 := n1_; have GW335 := n2_; have GE335 := n3_; clear n0_ n1_ n2_ n3_; clear hb hbox hg; have hcz10_0 : w9.cell? ⟨gb335, 0, none⟩ = some (.int .i64 0) := (blk_cell BK335.out 0).trans rfl; have hcz10_1 : w9.cell? ⟨gb335, 1, none⟩ = some (.slice none 0 0) := (blk_cell BK335.out 1).trans rfl; have hfz10_0 := blk_frozen BK335.out 0; have hfz10_1 := blk_frozen BK335.out 1))
        go_ret
        exact ⟨by first | rfl | (simp [errW_none, errW_some] <;> rfl) | (simp [*, errW_none, errW_some] <;> rfl), by repeat (first | (with_reducible first | exact HB.out | apply below_alloc | apply pw_below_drewN | apply below_drew1 | refine below_set ?_ GE335.out) | exact HB.out)⟩
       ·rw [if_neg c8] at H
        have c8b0 : decide (4096 ≤ ((rd_T109 l0 x8_1).f0)) = false := decide_eq_false c8
        clear c8
        by_cases c11 : (((rd_T109 l0 x8_1).f1).length : Int) = 0
        ·rw [if_pos c11] at H
         have c11b0 : ((((rd_T109 l0 x8_1).f1).length : Int) == 0) = true := beq_iff_eq.mpr c11
         have c11b1 : ((((rd_T109 l0 x8_1).f1).length : Int) != 0) = false := bne_eq_false_iff_eq.mpr c11
         clear c11
         obtain rfl := Option.some.inj H
         have p334 : 0 ≤ (x8_1 : Int) := of_decide_eq_true (by first | (with_reducible assumption) | assumption)
         have q334 : x8_1 < (l0.length : Int) := of_decide_eq_true (by first | (with_reducible assumption) | assumption)
         obtain ⟨ad334, A334_1, c334_1, e334, hx334_0, hx334_1, hl334_1, hi334_1⟩ := at_T109 HR0.out x8_1 p334 q334
         cases e334
         replace hx334_0 := (HB.out.cell (World.block_lt_of_cell? w _ hx334_0)).trans hx334_0
         replace hx334_1 := (HB.out.cell (World.block_lt_of_cell? w _ hx334_1)).trans hx334_1
         have HR334_1 := Aside0.mk hi334_1
         have HC334_1 := Aside0.mk hl334_1
         clear hi334_1 hl334_1
         replace p334 := eq_true p334
         replace q334 := eq_true q334
         go_wp2_with (first | ((with_reducible refine gate_dst (N := 5) rfl ?_); refine box_event ?hg (N := 5) ?hd (cs := #[.int .i64 0, .slice none 0 0]) (t := 109) ?hr ?_; (case hd => rfl); (case hg => rfl); (case hr => first | (go_simp; done) | (go_simp; rfl)); intro gb335 hg w12 hbox hb; have n0_ := Aside0.mk (below_step (by repeat (first | exact HB.out | apply below_alloc | apply pw_below_drewN | apply below_drew1)) hb); have n1_ := Aside0.mk (hbox); have n2_ := Aside0.mk ((by rw [hg]; exact (below_size (by repeat (first | exact HB.out | apply below_alloc | apply pw_below_drewN | apply below_drew1))) : w.heap.size ≤ gb335)); have n3_ := Aside0.mk ((by rw [hg]; exact (below_size (by repeat (first | exact HB.out | apply below_alloc | apply pw_below_drewN | apply below_drew1))) : w.heap.size ≤ gb335)); clear HB; have HB := n0_; have BK335 := n1_; have GW335 := n2_; have GE335 := n3_; clear n0_ n1_ n2_ n3_; clear hb hbox hg; have hcz13_0 : w12.cell? ⟨gb335, 0, none⟩ = some (.int .i64 0) := (blk_cell BK335.out 0).trans rfl; have hcz13_1 : w12.cell? ⟨gb335, 1, none⟩ = some (.slice none 0 0) := (blk_cell BK335.out 1).trans rfl; have hfz13_0 := blk_frozen BK335.out 0; have hfz13_1 := blk_frozen BK335.out 1))
         go_ret
         exact ⟨by first | rfl | (simp [errW_none, errW_some] <;> rfl) | (simp [*, errW_none, errW_some] <;> rfl), by repeat (first | (with_reducible first | exact HB.out | apply below_alloc | apply pw_below_drewN | apply below_drew1 | refine below_set ?_ GE335.out) | exact HB.out)⟩
        ·rw [if_neg c11] at H
         have c11b0 : ((((rd_T109 l0 x8_1).f1).length : Int) == 0) = false := beq_eq_false_iff_ne.mpr c11
         have c11b1 : ((((rd_T109 l0 x8_1).f1).length : Int) != 0) = true := bne_iff_ne.mpr c11
         have c11b2 : ¬ (((rd_T109 l0 x8_1).f1) = []) := fun h_ => c11 (by rw [h_]; rfl)
         by_cases c14 : (((rd_T109 l0 x8_1).f1).length : Int) > 1024
         ·rw [if_pos c14] at H
          have c14b0 : decide (1024 < (((rd_T109 l0 x8_1).f1).length : Int)) = true := decide_eq_true c14
          have c14b1 : decide (1024 < ((rd_T109 l0 x8_1).f1).length) = true := decide_eq_true (by omega)
          clear c14
          obtain rfl := Option.some.inj H
          have p334 : 0 ≤ (x8_1 : Int) := of_decide_eq_true (by first | (with_reducible assumption) | assumption)
          have q334 : x8_1 < (l0.length : Int) := of_decide_eq_true (by first | (with_reducible assumption) | assumption)
          obtain ⟨ad334, A334_1, c334_1, e334, hx334_0, hx334_1, hl334_1, hi334_1⟩ := at_T109 HR0.out x8_1 p334 q334
          cases e334
          replace hx334_0 := (HB.out.cell (World.block_lt_of_cell? w _ hx334_0)).trans hx334_0
          replace hx334_1 := (HB.out.cell (World.block_lt_of_cell? w _ hx334_1)).trans hx334_1
          have HR334_1 := Aside0.mk hi334_1
          have HC334_1 := Aside0.mk hl334_1
          clear hi334_1 hl334_1
          replace p334 := eq_true p334
          replace q334 := eq_true q334
          go_wp2_with (first | ((with_reducible refine gate_dst (N := 5) rfl ?_); refine box_event ?hg (N := 5) ?hd (cs := #[.int .i64 0, .slice none 0 0]) (t := 109) ?hr ?_; (case hd => rfl); (case hg => rfl); (case hr => first | (go_simp; done) | (go_simp; rfl)); intro gb335 hg w15 hbox hb; have n0_ := Aside0.mk (below_step (by repeat (first | exact HB.out | apply below_alloc | apply pw_below_drewN | apply below_drew1)) hb); have n1_ := Aside0.mk (hbox); have n2_ := Aside0.mk ((by rw [hg]; exact (below_size (by repeat (first | exact HB.out | apply below_alloc | apply pw_below_drewN | apply below_drew1))) : w.heap.size ≤ gb335)); have n3_ := Aside0.mk ((by rw [hg]; exact (below_size (by repeat (first | exact HB.out | apply below_alloc | apply pw_below_drewN | apply below_drew1))) : w.heap.size ≤ gb335)); clear HB; have HB := n0_; have BK335 := n1_; have GW335 := n2_; have GE335 := n3_; clear n0_ n1_ n2_ n3_; clear hb hbox hg; have hcz16_0 : w15.cell? ⟨gb335, 0, none⟩ = some (.int .i64 0) := (blk_cell BK335.out 0).trans rfl; have hcz16_1 : w15.cell? ⟨gb335, 1, none⟩ = some (.slice none 0 0) := (blk_cell BK335.out 1).trans rfl; have hfz16_0 := blk_frozen BK335.out 0; have hfz16_1 := blk_frozen BK335.out 1))
          go_ret
          exact ⟨by first | rfl | (simp [errW_none, errW_some] <;> rfl) | (simp [*, errW_none, errW_some] <;> rfl), by repeat (first | (with_reducible first | exact HB.out | apply below_alloc | apply pw_below_drewN | apply below_drew1 | refine below_set ?_ GE335.out) | exact HB.out)⟩
         ·rw [if_neg c14] at H
          have c14b0 : decide (1024 < (((rd_T109 l0 x8_1).f1).length : Int)) = false := decide_eq_false c14
          have c14b1 : decide (1024 < ((rd_T109 l0 x8_1).f1).length) = false := decide_eq_false (by omega)
          clear c14
          replace H := Option.bind_eq_some_iff.mp H
          obtain ⟨t336, A170, H⟩ := H
          replace H : (if t336 = true then (block_Right.l0 k1 l0 ((rd_T109 l0 x8_1).f0) l0 (l0.length : Int) (wrap64 (x8_1 + 1))) else (some false)) = some r := H
          have A17 := Aside0.mk A170
          clear A170
          by_cases c18 : t336 = true
          ·subst c18
           have H1 : (block_Right.l0 k1 l0 ((rd_T109 l0 x8_1).f0) l0 (l0.length : Int) (wrap64 (x8_1 + 1))) = some r := by rw [if_pos rfl] at H; exact H
           clear H
           have H := H1
           clear H1
           have H' := Aside0.mk H
           clear H
           have p334 : 0 ≤ (x8_1 : Int) := of_decide_eq_true (by first | (with_reducible assumption) | assumption)
           have q334 : x8_1 < (l0.length : Int) := of_decide_eq_true (by first | (with_reducible assumption) | assumption)
           obtain ⟨ad334, A334_1, c334_1, e334, hx334_0, hx334_1, hl334_1, hi334_1⟩ := at_T109 HR0.out x8_1 p334 q334
           cases e334
           replace hx334_0 := (HB.out.cell (World.block_lt_of_cell? w _ hx334_0)).trans hx334_0
           replace hx334_1 := (HB.out.cell (World.block_lt_of_cell? w _ hx334_1)).trans hx334_1
           have HR334_1 := Aside0.mk hi334_1
           have HC334_1 := Aside0.mk hl334_1
           clear hi334_1 hl334_1
           replace p334 := eq_true p334
           replace q334 := eq_true q334
           go_wp2_with (first | ((with_reducible refine gate_dst (N := 5) rfl ?_); refine box_event ?hg (N := 5) ?hd (cs := #[.int .i64 0, .slice none 0 0]) (t := 109) ?hr ?_; (case hd => rfl); (case hg => rfl); (case hr => first | (go_simp; done) | (go_simp; rfl)); intro gb335 hg w19 hbox hb; have n0_ := Aside0.mk (below_step (by repeat (first | exact HB.out | apply below_alloc | apply pw_below_drewN | apply below_drew1)) hb); have n1_ := Aside0.mk (hbox); have n2_ := Aside0.mk ((by rw [hg]; exact (below_size (by repeat (first | exact HB.out | apply below_alloc | apply pw_below_drewN | apply below_drew1))) : w.heap.size ≤ gb335)); have n3_ := Aside0.mk ((by rw [hg]; exact (below_size (by repeat (first | exact HB.out | apply below_alloc | apply pw_below_drewN | apply below_drew1))) : w.heap.size ≤ gb335)); clear HB; have HB := n0_; have BK335 := n1_; have GW335 := n2_; have GE335 := n3_; clear n0_ n1_ n2_ n3_; clear hb hbox hg; have hcz20_0 : w19.cell? ⟨gb335, 0, none⟩ = some (.int .i64 0) := (blk_cell BK335.out 0).trans rfl; have hcz20_1 : w19.cell? ⟨gb335, 1, none⟩ = some (.slice none 0 0) := (blk_cell BK335.out 1).trans rfl; have hfz20_0 := blk_frozen BK335.out 0; have hfz20_1 := blk_frozen BK335.out 1) | (go_at_call 33; (with_reducible refine (steps_Right.calls k1 _ _ ((rd_T109 l0 x8_1).f1) true _ ?side1 ?side2 A17.out).mono ?_); (case side1 => exact Kd.C_below HR334_1.out (by repeat (first | (with_reducible first | exact HB.out | apply below_alloc | apply pw_below_drewN | apply below_drew1 | refine below_set ?_ GE335.out) | exact HB.out))); (case side2 => exact HC334_1.out); rintro e w' ⟨rfl, ⟨nd, rfl⟩⟩))
           go_roundg k1
           case measure => have := HK1.out; omega
           case rel => exact ⟨((rd_T109 l0 x8_1).f0), (wrap64 (x8_1 + 1)), (by first | rfl | (simp; done) | (simp [*]; done) | (simp <;> grind)), (by first | rfl | (simp; done) | (simp [*]; done) | (simp <;> grind)), H', ⟨by have := HK1.out; omega⟩, ⟨by repeat (first | (with_reducible first | exact HB.out | apply below_alloc | apply pw_below_drewN | apply below_drew1 | refine below_set ?_ GE335.out) | exact HB.out)⟩⟩
          ·replace c18 := Bool.eq_false_iff.mpr c18
           subst c18
           have H1 : (some false) = some r := by rw [if_neg (show ¬ (false = true) by decide)] at H; exact H
           clear H
           have H := H1
           clear H1
           obtain rfl := Option.some.inj H
           have p334 : 0 ≤ (x8_1 : Int) := of_decide_eq_true (by first | (with_reducible assumption) | assumption)
           have q334 : x8_1 < (l0.length : Int) := of_decide_eq_true (by first | (with_reducible assumption) | assumption)
           obtain ⟨ad334, A334_1, c334_1, e334, hx334_0, hx334_1, hl334_1, hi334_1⟩ := at_T109 HR0.out x8_1 p334 q334
           cases e334
           replace hx334_0 := (HB.out.cell (World.block_lt_of_cell? w _ hx334_0)).trans hx334_0
           replace hx334_1 := (HB.out.cell (World.block_lt_of_cell? w _ hx334_1)).trans hx334_1
           have HR334_1 := Aside0.mk hi334_1
           have HC334_1 := Aside0.mk hl334_1
           clear hi334_1 hl334_1
           replace p334 := eq_true p334
           replace q334 := eq_true q334
           go_wp2_with (first | ((with_reducible refine gate_dst (N := 5) rfl ?_); refine box_event ?hg (N := 5) ?hd (cs := #[.int .i64 0, .slice none 0 0]) (t := 109) ?hr ?_; (case hd => rfl); (case hg => rfl); (case hr => first | (go_simp; done) | (go_simp; rfl)); intro gb335 hg w21 hbox hb; have n0_ := Aside0.mk (below_step (by repeat (first | exact HB.out | apply below_alloc | apply pw_below_drewN | apply below_drew1)) hb); have n1_ := Aside0.mk (hbox); have n2_ := Aside0.mk ((by rw [hg]; exact (below_size (by repeat (first | exact HB.out | apply below_alloc | apply pw_below_drewN | apply below_drew1))) : w.heap.size ≤ gb335)); have n3_ := Aside0.mk ((by rw [hg]; exact (below_size (by repeat (first | exact HB.out | apply below_alloc | apply pw_below_drewN | apply below_drew1))) : w.heap.size ≤ gb335)); clear HB; have HB := n0_; have BK335 := n1_; have GW335 := n2_; have GE335 := n3_; clear n0_ n1_ n2_ n3_; clear hb hbox hg; have hcz22_0 : w21.cell? ⟨gb335, 0, none⟩ = some (.int .i64 0) := (blk_cell BK335.out 0).trans rfl; have hcz22_1 : w21.cell? ⟨gb335, 1, none⟩ = some (.slice none 0 0) := (blk_cell BK335.out 1).trans rfl; have hfz22_0 := blk_frozen BK335.out 0; have hfz22_1 := blk_frozen BK335.out 1) | (go_at_call 33; (with_reducible refine (steps_Right.calls k1 _ _ ((rd_T109 l0 x8_1).f1) false _ ?side1 ?side2 A17.out).mono ?_); (case side1 => exact Kd.C_below HR334_1.out (by repeat (first | (with_reducible first | exact HB.out | apply below_alloc | apply pw_below_drewN | apply below_drew1 | refine below_set ?_ GE335.out) | exact HB.out))); (case side2 => exact HC334_1.out); rintro e w' ⟨rfl, ⟨nd, rfl⟩⟩))
           go_ret
           exact ⟨by first | rfl | (simp [errW_none, errW_some] <;> rfl) | (simp [*, errW_none, errW_some] <;> rfl), by repeat (first | (with_reducible first | exact HB.out | apply below_alloc | apply pw_below_drewN | apply below_drew1 | refine below_set ?_ GE335.out) | exact HB.out)⟩
     ·rw [if_neg c4] at H
      exact absurd H (by simp)
    ·rw [if_neg c3] at H
     exact absurd H (by simp)
   ·rw [if_neg c2] at H
    have c2b0 : decide (x8_1 < (l0.length : Int)) = false := decide_eq_false c2
    clear c2
    by_cases c23 : (l0.length : Int) > 0
    ·rw [if_pos c23] at H
     have c23b0 : decide (0 < (l0.length : Int)) = true := decide_eq_true c23
     have c23b1 : decide (0 < l0.length) = true := decide_eq_true (by omega)
     clear c23
     obtain rfl := Option.some.inj H
     go_wp2
     go_ret
     exact ⟨by first | rfl | (simp [errW_none, errW_some] <;> rfl) | (simp [*, errW_none, errW_some] <;> rfl), by repeat (first | exact HB.out | apply below_alloc | apply pw_below_drewN | apply below_drew1)⟩
    ·rw [if_neg c23] at H
     have c23b0 : decide (0 < (l0.length : Int)) = false := decide_eq_false c23
     have c23b1 : decide (0 < l0.length) = false := decide_eq_false (by omega)
     clear c23
     obtain rfl := Option.some.inj H
     go_wp2
     go_ret
     exact ⟨by first | rfl | (simp [errW_none, errW_some] <;> rfl) | (simp [*, errW_none, errW_some] <;> rfl), by repeat (first | exact HB.out | apply below_alloc | apply pw_below_drewN | apply below_drew1)⟩
end Go.Proofs.Ythkpnnbjcendcaa.X
end
section
namespace Go.Proofs.Ythkpnnbjcendcaa.X
open Go.RowKit Go.Proofs.YthkpnnbjcendcaaW.PrintWords Go.Proofs.YthkpnnbjcendcaaW.PrintLast Go.Proofs.YthkpnnbjcendcaaW.PrintMore
attribute [local go_sem] max2_int min2_int max_two min_two max_three min_three max_four min_four
def octs_PutText.f (l0 : List Int) (a1 : ByteArray) : Option (List Int) := (octs_Put.f l0 (IntKind.u64.wrap ((a1.size : Int)))).bind fun t337 => (if t337.length + a1.size < 140737488355328 then (some (t337 ++ bytesOf a1)) else (none))
end Go.Proofs.Ythkpnnbjcendcaa.X
end
section
namespace Go.Proofs.Ythkpnnbjcendcaa.X
open Go.RowKit Go.Proofs.YthkpnnbjcendcaaW.PrintWords Go.Proofs.YthkpnnbjcendcaaW.PrintLast Go.Proofs.YthkpnnbjcendcaaW.PrintMore
attribute [local go_sem] max2_int min2_int max_two min_two max_three min_three max_four min_four
def seal_Put.f (l0 : List Int) : Option (List Int) := (octs_Put.f ([] : List Int) (IntKind.u64.wrap ((l0.length : Int)))).bind fun t343 => (if t343.length + l0.length < 140737488355328 then ((some (t343 ++ l0 : List Int)).bind fun y346 => ((seal_Sum.f y346).bind fun t349 => ((some (([(t349 / 16777216) % 256, (t349 / 65536) % 256, (t349 / 256) % 256, (t349) % 256] : List Int) : List Int)).bind fun y350 => (if y346.length + y350.length < 140737488355328 then (some (y346 ++ y350)) else (none))))) else (none))
end Go.Proofs.Ythkpnnbjcendcaa.X
end
section
namespace Go.Proofs.Ythkpnnbjcendcaa.X
open Go.RowKit Go.Proofs.YthkpnnbjcendcaaW.PrintWords Go.Proofs.YthkpnnbjcendcaaW.PrintLast Go.Proofs.YthkpnnbjcendcaaW.PrintMore
attribute [local go_sem] max2_int min2_int max_two min_two max_three min_three max_four min_four
def marigraphref01_PutText.f (k : Nat) (l0 : List Int) (a1 : ByteArray) : Option (List Int) := (marigraphref01_Put.f k l0 (IntKind.u64.wrap ((a1.size : Int)))).bind fun t356 => (if t356.length + a1.size < 140737488355328 then (some (t356 ++ bytesOf a1)) else (none))
set_option maxHeartbeats 8000000 in
set_option maxRecDepth 100000 in
theorem marigraphref01_PutText.calls (k : Nat) (A0 : Option Addr) (c0 : Nat) (l0 : List Int) (a1 : ByteArray) (r : List Int) (w : World) (hr0 : Kd.C (Kd.int .u8) w A0 l0.length l0) (hc0 : l0.length ≤ c0) (h : marigraphref01_PutText.f k l0 a1 = some r) :
  Calls Try.prog 89 #[.slice A0 l0.length c0, .string a1] w fun e w' => ∃ v0_ : Value, e = .returned (v0_) ∧ Kd.R (Kd.int .u8) 5 w' w.heap.size (fun _ => True) v0_ r ∧ Below w.heap.size w w' := by
 have HR0 := Aside0.mk hr0
 have HC0 := Aside0.mk hc0
 clear hr0 hc0
 have HB := Aside0.mk (Below.refl w.heap.size w)
 have H : ((marigraphref01_Put.f k l0 (IntKind.u64.wrap ((a1.size : Int)))).bind fun t356 => (if t356.length + a1.size < 140737488355328 then (some (t356 ++ bytesOf a1)) else (none))) = some r := h
 clear h
 replace H := Option.bind_eq_some_iff.mp H
 obtain ⟨t356, A30, H⟩ := H
 replace H : (if t356.length + a1.size < 140737488355328 then (some (t356 ++ bytesOf a1)) else (none)) = some r := H
 have A3 := Aside0.mk A30
 clear A30
 by_cases c4 : t356.length + a1.size < 140737488355328
 ·rw [if_pos c4] at H
  have LMc4 := Aside0.mk c4
  clear c4
  obtain ⟨y359, hy359⟩ : ∃ y_ : List Int, y_ = (t356 ++ bytesOf a1) := ⟨_, rfl⟩
  replace H : (some y359) = some r := by first | (rw [hy359]; with_reducible exact H) | (have H2_ := (Option.bind_some _ _).symm.trans H; rw [hy359]; with_reducible exact H2_) | (have H2_ := (Option.bind_some _ _).symm.trans H; with_reducible exact H2_) | with_reducible exact H | (rw [hy359]; exact H) | exact H
  have Ny359 := Aside0.mk hy359
  clear hy359
  obtain rfl := Option.some.inj H
  go_enter Try.func89, Try.ntmps89
  go_wp2_with (first | ((with_reducible refine gate_callee (f := 68) rfl ?_); refine goesL_ (some 9) rfl rfl Try.func68 (by kernel_rfl) rfl #[.slice A0 l0.length c0, .int .u64 (IntKind.u64.wrap ((a1.size : Int)))] rfl (by (try simp only [List.map_toArray, List.map_cons, List.map_nil]); first | done | rfl | (simp only [List.length_drop, List.length_take]; rfl)) ?_; (with_reducible refine (marigraphref01_Put.calls k _ _ l0 (IntKind.u64.wrap ((a1.size : Int))) t356 _ ?side1 ?side2 A3.out).mono ?_); (case side1 => repeat (first | exact HR0.out | (with_reducible refine Kd.C_alloc ?_ _) | (with_reducible refine Kd.C_drewN ?_ _) | (with_reducible refine Kd.C_drew ?_))); (case side2 => exact HC0.out); rintro e w5 ⟨v357, rfl, ho0, hb⟩; refine ⟨_, rfl, ?_⟩; have n0_ := Aside0.mk (Kd.R_lower ho0 (below_size (by repeat (first | exact HB.out | apply below_alloc | apply pw_below_drewN | apply below_drew1)))); have n1_ := Aside0.mk (below_step (by repeat (first | exact HB.out | apply below_alloc | apply pw_below_drewN | apply below_drew1)) hb); clear HB; have HO358 := n0_; have HB := n1_; clear n0_ n1_; (try clear hb); (try clear hb2); (try clear hk); (try clear hi); (try clear ho0)) | (at_builtin; refine print_append_str (w0 := w) w.heap.size rfl (.tmp 9) _ 24 9 5 rfl Try.underlying24 Try.underlying9 info5 v357 t356 a1 rfl rfl ?aO ?aB ?aS ?aL ?_; (case aB => exact (by repeat (first | exact HB.out | apply below_alloc | apply pw_below_drewN | apply below_drew1))); (case aO => exact (Kd.own_of_R (by (with_reducible repeat (first | apply Kd.R_alloc | apply Kd.R_drewN | apply Kd.R_drew)); exact HO358.out))); (case aS => exact (below_size (by repeat (first | exact HB.out | apply below_alloc | apply pw_below_drewN | apply below_drew1)))); (case aL => have := LMc4.out; omega); intro v360 w6 ho0 hb hg; have ho := Kd.R_of_own (h1 := fun _ => rfl) (ok := fun _ => True) ho0 (fun _ _ => trivial); clear ho0; have hat := True.intro; rw [← Ny359.out] at ho; change Kd.R (Kd.int .u8) 5 w6 w.heap.size (fun _ => True) v360 y359 at ho; have n0_ := Aside0.mk (hb); have n1_ := Aside0.mk (ho); clear HB; clear HO358; have HB := n0_; have HO361 := n1_; clear n0_ n1_; clear ho hb hg hat))
  go_ret
  exact ⟨_, by first | rfl | (simp [errW_none, errW_some] <;> rfl) | (simp [*, errW_none, errW_some] <;> rfl), by (with_reducible repeat (first | apply Kd.R_alloc | apply Kd.R_drewN | apply Kd.R_drew)); exact HO361.out, by repeat (first | exact HB.out | apply below_alloc | apply pw_below_drewN | apply below_drew1)⟩
 ·rw [if_neg c4] at H
  exact absurd H (by simp)
end Go.Proofs.Ythkpnnbjcendcaa.X
end
