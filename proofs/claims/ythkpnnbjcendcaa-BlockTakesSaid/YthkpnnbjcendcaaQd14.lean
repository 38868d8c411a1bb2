/- What the law leans on, part 14: Rse, Rnt, Xtk, X105, Brg, X71, X79. -/
import Derived.Test.YthkpnnbjcendcaaQd13
import Derived.Laws.Cover1
import Derived.Shelf.Abstract
import Derived.Lib.SliceRun
set_option linter.unusedVariables false
set_option linter.unusedSimpArgs false
namespace SzQd14
theorem sA_ {α : Type} {l : List α} {i : Nat} {a : α} : l.toArray.setIfInBounds i a = (l.set i a).toArray := List.setIfInBounds_toArray ..
theorem sB_ {α : Type} {x : α} {l : List α} {a : α} : (x :: l).set 0 a = a :: l := rfl
theorem sC_ {α : Type} {x : α} {l : List α} {n : Nat} {a : α} : (x :: l).set (n + 1) a = x :: l.set n a := rfl
end SzQd14
open SzQd14
section
open Go.RowKit Go.Proofs.Ythkpnnbjcendcaa.X Go.Proofs.Ythkpnnbjcendcaa.Pl Go.Proofs.Ythkpnnbjcendcaa.Sp Go.Proofs.Ythkpnnbjcendcaa.Pure Go.Proofs.YthkpnnbjcendcaaW.PrintWords Go.Proofs.YthkpnnbjcendcaaW.PrintLast Go.Proofs.YthkpnnbjcendcaaW.PrintMore
namespace Go.Proofs.Ythkpnnbjcendcaa.Pure
theorem sealB_byt {x : List Int} (h : Byt x) : Byt (sealL x) := fun y hy => by
 unfold sealL at hy
 rcases List.mem_append.1 hy with hy | hy
 ·rcases List.mem_append.1 hy with hy | hy
  ·exact varint_byt _ y hy
  ·exact h y hy
 ·exact footL_byt _ y hy
theorem seal_first {m : Nat} {r : List Int} (h : (varint m ++ r).take (sealL (r.take m)).length ≠ sealL (r.take m)) : ∀ x t, varint m ++ r ≠ sealL x ++ t := by
 intro x t he
 have he2 := he
 obtain ⟨rfl, h2⟩ := seal_parts he2
 apply h
 have hx : r.take x.length = x := by rw [h2, List.take_left]
 rw [hx, he, List.take_left]
end Go.Proofs.Ythkpnnbjcendcaa.Pure
namespace Go.Proofs.Ythkpnnbjcendcaa.Sc
set_option maxHeartbeats 16000000 in
set_option maxRecDepth 100000 in
theorem rse_no (A0 : Option Addr) (c0 : Nat) (b : List Int) (w : World) (hr0 : Kd.C (Kd.int .u8) w A0 b.length b) (hc0 : b.length ≤ c0) (hby : Byt b) (hl : b.length < 1000000)
  (hno : (∀ m r, m < 2 ^ 64 → b ≠ varint m ++ r) ∨ ∃ m r, m < 2 ^ 64 ∧ b = varint m ++ r ∧ r.length < m) :
  Calls Try.prog 94 #[.slice A0 b.length c0] w fun e w' => e = .returned (.tuple #[.slice none 0 0, .slice none 0 0, .int .i64 6]) ∧ Below w.heap.size w w' := by
 have HB := Aside0.mk (Below.refl w.heap.size w)
 have HS := Aside0.mk (Sep.nil w.heap.size w)
 have HR := Aside0.mk hr0
 have HC := Aside0.mk hc0
 have HBY := Aside0.mk hby
 have HL := Aside0.mk hl
 clear hr0 hc0 hby hl
 rcases hno with hno | ⟨m, r, hm, hbr, hlr⟩
 ·have HNO := Aside0.mk hno
  clear hno
  go_enter Try.func94, Try.ntmps94
  go_wp2_with (first
   | ((with_reducible refine gate_dst (N := 9) rfl ?_); (try (refine gate_guard (by rfl) ?_; dsimp only)); (refine wp_lit (Kd.int .u8) (w0 := w) ?hg_ (N := 9) ?hd_ 5 (([] : List Int)) [] ?hr_ ?hp_ (by repeat (first | exact HS.out | apply sep_alloc | apply sep_drewN | apply sep_drew)) (by repeat (first | exact HB.out | apply below_alloc | apply pw_below_drewN | apply below_drew1)) (by simp) ?_; (case hd_ => rfl); (case hg_ => rfl); (case hr_ => first | (go_simp; done) | (go_simp; rfl)); (case hp_ => exact (Reps.none _ _))); intro v_ w_ F_ hs_ hb_; clear HB HS; have HB := Aside0.mk hb_; have HS := Aside0.mk hs_; clear hs_ hb_; obtain ⟨A_, c_, e_⟩ := Kd.R_slice (Sep.R HS.out); subst e_; (skip))
   | ((with_reducible refine gate_builtin (b := .append) (xs := #[.tmp 9, .tmp 10]) rfl ?_); (refine wp_append_row (Kd.int .u8) (w0 := w) rfl (.tmp 9) (.tmp 10) 24 5 (.int .u8 0) 1 rfl Try.underlying24 info5 rfl (by decide) (by omega) b _ _ _ HS.out (Kd.C_below HR.out HB.out) (fun _ _ h => h) (by repeat (first | exact HB.out | apply below_alloc | apply pw_below_drewN | apply below_drew1)) (by have := HL.out; simp; omega) rfl rfl ?_); (intro v_ w_ F_ hs_ hb_); (obtain ⟨O0, hy_⟩ : ∃ y_, y_ = ([] : List Int) ++ b := ⟨_, rfl⟩; rw [← hy_] at hs_; have HO0 := Aside0.mk hy_; clear hy_ HB HS; have HB := Aside0.mk hb_; have HS := Aside0.mk hs_; clear hs_ hb_; obtain ⟨A_, c_, e_⟩ := Kd.R_slice (Sep.R HS.out); subst e_); (have ho0 : b = O0 := (by rw [HO0.out]; rfl); clear HO0; subst ho0))
   | ((with_reducible refine gate_dst (N := 13) rfl ?_); (try (refine gate_guard (by rfl) ?_; dsimp only)); refine box_event ?hg (N := 13) ?hd (cs := #[.slice A_ b.length c_, .bool false]) (t := 104) ?hr ?_; (case hd => rfl); (case hg => rfl); (case hr => first | (go_simp; done) | (go_simp; rfl)); intro g hg w5 hbox hb; have n0_ := Aside0.mk (below_step (by repeat (first | exact HB.out | apply below_alloc | apply pw_below_drewN | apply below_drew1)) hb); have n1_ := Aside0.mk (Sep.newbox (by repeat (first | exact HS.out | apply sep_alloc | apply sep_drewN | apply sep_drew)) hb (Nat.le_of_eq hg.symm) (below_size (by repeat (first | exact HB.out | apply below_alloc | apply pw_below_drewN | apply below_drew1))) hbox); clear HB HS; have HB := n0_; have HS := n1_; clear n0_ n1_ hb hbox hg)
   | (go_at_call 79; ((with_reducible refine (rnum_no g A_ c_ b HNO.out false w _ HB.out HS.out.own (Kd.R_reads' (Sep.R HS.out.drop)).2.2 (Kd.R_reads' (Sep.R HS.out.drop)).2.1 HBY.out HL.out).mono ?_); rintro e w2 ⟨rfl, ht⟩; obtain ⟨F_, hs_⟩ := Turned.sep ht (HS.out) rfl; have n0_ := Aside0.mk (Turned.below ht); clear HB HS ht; have HB := n0_; have HS := Aside0.mk hs_; clear n0_ hs_; have hc0 := Sep.c20 HS.out; have hc1 := Sep.c21 HS.out)))
  go_ret3
  exact ⟨rfl, HB.out⟩
 ·have HM := Aside0.mk hm
  have HBR := Aside0.mk hbr
  obtain ⟨nr, hnr⟩ : ∃ n, n = r.length := ⟨_, rfl⟩
  have HNR := Aside0.mk hnr
  have hnl : nr < 1000000 := by have := HL.out; rw [hbr, List.length_append, ← hnr] at this; omega
  rw [← hnr] at hlr
  have c1b : decide ((nr : Int) < (m : Int)) = true := decide_eq_true (by omega)
  have c1n : decide (nr < m) = true := decide_eq_true hlr
  have hu4 : IntKind.u64.wrap (nr : Int) = (nr : Int) := w_u64 (by omega) (by omega)
  clear hm hbr hnr hnl hlr
  go_enter Try.func94, Try.ntmps94
  go_wp2_with (first
   | ((with_reducible refine gate_dst (N := 9) rfl ?_); (try (refine gate_guard (by rfl) ?_; dsimp only)); (refine wp_lit (Kd.int .u8) (w0 := w) ?hg_ (N := 9) ?hd_ 5 (([] : List Int)) [] ?hr_ ?hp_ (by repeat (first | exact HS.out | apply sep_alloc | apply sep_drewN | apply sep_drew)) (by repeat (first | exact HB.out | apply below_alloc | apply pw_below_drewN | apply below_drew1)) (by simp) ?_; (case hd_ => rfl); (case hg_ => rfl); (case hr_ => first | (go_simp; done) | (go_simp; rfl)); (case hp_ => exact (Reps.none _ _))); intro v_ w_ F_ hs_ hb_; clear HB HS; have HB := Aside0.mk hb_; have HS := Aside0.mk hs_; clear hs_ hb_; obtain ⟨A_, c_, e_⟩ := Kd.R_slice (Sep.R HS.out); subst e_; (skip))
   | ((with_reducible refine gate_builtin (b := .append) (xs := #[.tmp 9, .tmp 10]) rfl ?_); (refine wp_append_row (Kd.int .u8) (w0 := w) rfl (.tmp 9) (.tmp 10) 24 5 (.int .u8 0) 1 rfl Try.underlying24 info5 rfl (by decide) (by omega) b _ _ _ HS.out (Kd.C_below HR.out HB.out) (fun _ _ h => h) (by repeat (first | exact HB.out | apply below_alloc | apply pw_below_drewN | apply below_drew1)) (by have := HL.out; simp; omega) rfl rfl ?_); (intro v_ w_ F_ hs_ hb_); (obtain ⟨O0, hy_⟩ : ∃ y_, y_ = ([] : List Int) ++ b := ⟨_, rfl⟩; rw [← hy_] at hs_; have HO0 := Aside0.mk hy_; clear hy_ HB HS; have HB := Aside0.mk hb_; have HS := Aside0.mk hs_; clear hs_ hb_; obtain ⟨A_, c_, e_⟩ := Kd.R_slice (Sep.R HS.out); subst e_); (have ho0 : b = O0 := (by rw [HO0.out]; rfl); clear HO0; subst ho0))
   | ((with_reducible refine gate_dst (N := 13) rfl ?_); (try (refine gate_guard (by rfl) ?_; dsimp only)); refine box_event ?hg (N := 13) ?hd (cs := #[.slice A_ b.length c_, .bool false]) (t := 104) ?hr ?_; (case hd => rfl); (case hg => rfl); (case hr => first | (go_simp; done) | (go_simp; rfl)); intro g hg w5 hbox hb; have n0_ := Aside0.mk (below_step (by repeat (first | exact HB.out | apply below_alloc | apply pw_below_drewN | apply below_drew1)) hb); have n1_ := Aside0.mk (Sep.newbox (by repeat (first | exact HS.out | apply sep_alloc | apply sep_drewN | apply sep_drew)) hb (Nat.le_of_eq hg.symm) (below_size (by repeat (first | exact HB.out | apply below_alloc | apply pw_below_drewN | apply below_drew1))) hbox); clear HB HS; have HB := n0_; have HS := n1_; clear n0_ n1_ hb hbox hg)
   | (go_at_call 79; ((with_reducible refine (rnum_yes m r HM.out g A_ c_ b HBR.out false w _ HB.out HS.out.own (Kd.R_reads' (Sep.R HS.out.drop)).2.2 (Kd.R_reads' (Sep.R HS.out.drop)).2.1 HBY.out HL.out).mono ?_); rintro e w2 ⟨A2, c2, rfl, hlc, hcd, ht⟩; rw [← HNR.out] at ht; clear hlc hcd; obtain ⟨F_, hs_⟩ := Turned.sep ht (HS.out) rfl; have n0_ := Aside0.mk (Turned.below ht); clear HB HS ht; have HB := n0_; have HS := Aside0.mk hs_; clear n0_ hs_; have hc0 := Sep.c20 HS.out; have hc1 := Sep.c21 HS.out)))
  go_ret3
  exact ⟨rfl, HB.out⟩
set_option maxHeartbeats 32000000 in
set_option maxRecDepth 100000 in
theorem rse_at (A0 : Option Addr) (c0 : Nat) (b : List Int) (w : World) (hr0 : Kd.C (Kd.int .u8) w A0 b.length b) (hc0 : b.length ≤ c0) (hby : Byt b) (hl : b.length < 1000000)
  (m : Nat) (r : List Int) (hbr : b = varint m ++ r) (hmr : m ≤ r.length) :
  Calls Try.prog 94 #[.slice A0 b.length c0] w fun e w' =>
   (b.take (sealL (r.take m)).length = sealL (r.take m) ∧ (∃ v1 A2 c2, e = .returned (.tuple #[v1, .slice A2 (b.drop (sealL (r.take m)).length).length c2, .int .i64 0]) ∧ Kd.R (Kd.int .u8) 5 w' w.heap.size (fun _ => True) v1 (r.take m)) ∧ Below w.heap.size w w') ∨
   (b.take (sealL (r.take m)).length ≠ sealL (r.take m) ∧ e = .returned (.tuple #[.slice none 0 0, .slice none 0 0, .int .i64 6]) ∧ Below w.heap.size w w') := by
 have HB := Aside0.mk (Below.refl w.heap.size w)
 have HS := Aside0.mk (Sep.nil w.heap.size w)
 have HR := Aside0.mk hr0
 have HC := Aside0.mk hc0
 have HBY := Aside0.mk hby
 have HL := Aside0.mk hl
 obtain ⟨nr, hnr⟩ : ∃ n, n = r.length := ⟨_, rfl⟩
 have HNR := Aside0.mk hnr
 have HBR := Aside0.mk hbr
 have hbl : b.length = (varint m).length + nr := by rw [hnr, hbr, List.length_append]
 rw [← hnr] at hmr
 have HM := Aside0.mk (show m < 2 ^ 64 by omega)
 have HML := Aside0.mk (show m ≤ 10000000 by omega)
 have HAL := Aside0.mk (show (([] : List Int).length + m) * 1 ≤ 140737488355328 by rw [List.length_nil]; omega)
 obtain ⟨x, hx⟩ : ∃ x, x = r.take m := ⟨_, rfl⟩
 rw [← hx]
 have hxl : x.length = m := by rw [hx, List.length_take]; omega
 have HXL := Aside0.mk hxl
 have HXM := Aside0.mk (show x.length ≤ 10000000 by omega)
 have HXB := Aside0.mk (show Byt x by rw [hx]; exact fun y hy => byt_app (a := varint m) (hbr ▸ hby) y (List.mem_of_mem_take hy))
 have HXC := Aside0.mk (show ∀ (w2 : World) (A2 : Option Addr), Kd.C (Kd.int .u8) w2 A2 r.length r → Kd.C (Kd.int .u8) w2 A2 m x from fun w2 A2 h => by
  have h2 := C_take' h m
  rw [← hx, hxl] at h2
  exact h2)
 obtain ⟨O8, hO8⟩ : ∃ O, O = sealL x := ⟨_, rfl⟩
 have HO8 := Aside0.mk hO8.symm
 rw [← hO8]
 obtain ⟨L, hL⟩ : ∃ L, L = O8.length := ⟨_, rfl⟩
 have HL8 := Aside0.mk hL.symm
 rw [← hL]
 obtain ⟨i05, hi05, _, hsz5, _⟩ := info_parts info5
 have HTO := Aside0.mk (fun (A : Option Addr) (c : Nat) (hc : nr ≤ c) => cut_to (P := Try.prog) 24 5 .u64 Try.underlying24 hi05 A nr c (m : Int) (by omega) (by omega) hc)
 have c1b : decide ((nr : Int) < (m : Int)) = false := decide_eq_false (by omega)
 have c1n : decide (nr < m) = false := decide_eq_false (by omega)
 have k1 := eq_true hmr
 have k1i := eq_true (show (m : Int) ≤ (nr : Int) by omega)
 have k2i := eq_true (show 0 ≤ (m : Int) by omega)
 have hnl : nr < 1000000 := by omega
 by_cases hlong : L ≤ b.length
 ·have c2b : decide ((b.length : Int) < (L : Int)) = false := decide_eq_false (by omega)
  have c2n : decide (b.length < L) = false := decide_eq_false (by omega)
  have hcut1 := cut_to (P := Try.prog) 24 5 .i64 Try.underlying24 hi05 A0 b.length c0 (L : Int) (by omega) (by omega) hc0
  have hcut4 := cut_from (P := Try.prog) 24 5 .i64 Try.underlying24 hi05 1 hsz5 A0 b.length c0 (L : Int) (by omega) (by omega)
  rw [Int.toNat_natCast] at hcut1 hcut4
  obtain ⟨F5, hF5⟩ : ∃ F, F = b.take L := ⟨_, rfl⟩
  obtain ⟨u, hu⟩ : ∃ u, u = b.drop L := ⟨_, rfl⟩
  obtain ⟨nu, hnu⟩ : ∃ n, n = u.length := ⟨_, rfl⟩
  have e7 : b.length - L = nu := by rw [hnu, hu, List.length_drop]
  have hBL : (([] : List Int).length + nu) * 1 ≤ 140737488355328 := by rw [List.length_nil]; omega
  have HBL := Aside0.mk hBL
  have HNU := Aside0.mk hnu
  rw [e7] at hcut4
  obtain ⟨A7, hA7⟩ : ∃ A, A = (if c0 = L then A0 else A0.map (fun x => x.add (L * 1))) := ⟨_, rfl⟩
  obtain ⟨c7, hc7⟩ : ∃ x, x = c0 - L := ⟨_, rfl⟩
  rw [← hA7, ← hc7] at hcut4
  rw [← hF5, ← hu, ← hnu]
  have HC5 := Aside0.mk (show Kd.C (Kd.int .u8) w A0 L F5 by
   have h2 := C_take' HR.out L
   rw [← hF5, show F5.length = L by rw [hF5, List.length_take]; omega] at h2
   exact h2)
  have HC7 := Aside0.mk (show Kd.C (Kd.int .u8) w A7 nu u by
   have h2 := Kd.C_drop (m := L) HR.out hlong HC.out
   rw [← hu, ← hnu] at h2
   rw [hA7]
   exact h2)
  have hVU := str_inj (xs := O8) (ys := F5) (by rw [hO8]; exact sealB_byt HXB.out) (by rw [hF5]; exact fun y hy => HBY.out y (List.mem_of_mem_take hy))
  obtain ⟨sV, hsV⟩ : ∃ s, s = strOfNums O8 := ⟨_, rfl⟩
  obtain ⟨sU, hsU⟩ : ∃ s, s = strOfNums F5 := ⟨_, rfl⟩
  rw [← hsV, ← hsU] at hVU
  have HSV := Aside0.mk hsV
  have HSU := Aside0.mk hsU
  have k3 := eq_true hlong
  have k3i := eq_true (show (L : Int) ≤ (b.length : Int) by omega)
  have k4i := eq_true (show 0 ≤ (L : Int) by omega)
  have hu4 : IntKind.u64.wrap (nr : Int) = (nr : Int) := w_u64 (by omega) (by omega)
  clear hi05 hsz5 hA7 hc7 hbr hmr hl hby hc0 hr0 hnr hnl e7 hBL hnu hlong hu hF5 hL hO8 hbl hx hxl
  by_cases heq : sV = sU
  ·have c8 := bytes_eq heq
   have HEQ := Aside0.mk (show F5 = O8 from (hVU.1 heq).symm)
   clear heq hVU hsV hsU
   go_enter Try.func94, Try.ntmps94
   go_wp2_with (first
    | ((with_reducible refine gate_dst (N := 9) rfl ?_); (try (refine gate_guard (by rfl) ?_; dsimp only)); (refine wp_lit (Kd.int .u8) (w0 := w) ?hg_ (N := 9) ?hd_ 5 (([] : List Int)) [] ?hr_ ?hp_ (by repeat (first | exact HS.out | apply sep_alloc | apply sep_drewN | apply sep_drew)) (by repeat (first | exact HB.out | apply below_alloc | apply pw_below_drewN | apply below_drew1)) (by simp) ?_; (case hd_ => rfl); (case hg_ => rfl); (case hr_ => first | (go_simp; done) | (go_simp; rfl)); (case hp_ => exact (Reps.none _ _))); intro v_ w_ F_ hs_ hb_; clear HB HS; have HB := Aside0.mk hb_; have HS := Aside0.mk hs_; clear hs_ hb_; obtain ⟨A_, c_, e_⟩ := Kd.R_slice (Sep.R HS.out); subst e_; (skip))
    | ((with_reducible refine gate_builtin (b := .append) (xs := #[.tmp 9, .tmp 10]) rfl ?_); (refine wp_append_row (Kd.int .u8) (w0 := w) rfl (.tmp 9) (.tmp 10) 24 5 (.int .u8 0) 1 rfl Try.underlying24 info5 rfl (by decide) (by omega) b _ _ _ HS.out (Kd.C_below HR.out HB.out) (fun _ _ h => h) (by repeat (first | exact HB.out | apply below_alloc | apply pw_below_drewN | apply below_drew1)) (by have := HL.out; simp; omega) rfl rfl ?_); (intro v_ w_ F_ hs_ hb_); (obtain ⟨O0, hy_⟩ : ∃ y_, y_ = ([] : List Int) ++ b := ⟨_, rfl⟩; rw [← hy_] at hs_; have HO0 := Aside0.mk hy_; clear hy_ HB HS; have HB := Aside0.mk hb_; have HS := Aside0.mk hs_; clear hs_ hb_; obtain ⟨A_, c_, e_⟩ := Kd.R_slice (Sep.R HS.out); subst e_); (have ho0 : b = O0 := (by rw [HO0.out]; rfl); clear HO0; subst ho0))
    | ((with_reducible refine gate_dst (N := 13) rfl ?_); (try (refine gate_guard (by rfl) ?_; dsimp only)); refine box_event ?hg (N := 13) ?hd (cs := #[.slice A_ b.length c_, .bool false]) (t := 104) ?hr ?_; (case hd => rfl); (case hg => rfl); (case hr => first | (go_simp; done) | (go_simp; rfl)); intro g hg w5 hbox hb; have n0_ := Aside0.mk (below_step (by repeat (first | exact HB.out | apply below_alloc | apply pw_below_drewN | apply below_drew1)) hb); have n1_ := Aside0.mk (Sep.newbox (by repeat (first | exact HS.out | apply sep_alloc | apply sep_drewN | apply sep_drew)) hb (Nat.le_of_eq hg.symm) (below_size (by repeat (first | exact HB.out | apply below_alloc | apply pw_below_drewN | apply below_drew1))) hbox); clear HB HS; have HB := n0_; have HS := n1_; clear n0_ n1_ hb hbox hg)
    | (go_at_call 79; ((with_reducible refine (rnum_yes m r HM.out g A_ c_ b HBR.out false w _ HB.out HS.out.own (Kd.R_reads' (Sep.R HS.out.drop)).2.2 (Kd.R_reads' (Sep.R HS.out.drop)).2.1 HBY.out HL.out).mono ?_); rintro e w2 ⟨A2, c2, rfl, hlc, hcd, ht⟩; rw [← HNR.out] at ht hlc; have HCD := Aside0.mk hcd; have hto := HTO.out A2 c2 hlc; rw [Int.toNat_natCast] at hto; clear hlc hcd; obtain ⟨F_, hs_⟩ := Turned.sep ht (HS.out) rfl; have n0_ := Aside0.mk (Turned.below ht); clear HB HS ht; have HB := n0_; have HS := Aside0.mk hs_; clear n0_ hs_; have hc0 := Sep.c20 HS.out; have hc1 := Sep.c21 HS.out))
    | ((with_reducible refine gate_dst (N := 30) rfl ?_); (try (refine gate_guard (by rfl) ?_; dsimp only)); (refine wp_lit (Kd.int .u8) (w0 := w) ?hg_ (N := 30) ?hd_ 5 (([] : List Int)) [] ?hr_ ?hp_ (by repeat (first | exact HS.out | apply sep_alloc | apply sep_drewN | apply sep_drew)) (by repeat (first | exact HB.out | apply below_alloc | apply pw_below_drewN | apply below_drew1)) (by simp) ?_; (case hd_ => rfl); (case hg_ => rfl); (case hr_ => first | (go_simp; done) | (go_simp; rfl)); (case hp_ => exact (Reps.none _ _))); intro v_ w_ F_ hs_ hb_; clear HB HS; have HB := Aside0.mk hb_; have HS := Aside0.mk hs_; clear hs_ hb_; obtain ⟨A_, c_, e_⟩ := Kd.R_slice (Sep.R HS.out); subst e_; (clear hc0 hc1; have hc0 := Sep.c20 HS.out.p2))
    | ((with_reducible refine gate_builtin (b := .append) (xs := #[.tmp 30, .tmp 36]) rfl ?_); (refine wp_append_row (Kd.int .u8) (w0 := w) rfl (.tmp 30) (.tmp 36) 24 5 (.int .u8 0) 1 rfl Try.underlying24 info5 rfl (by decide) (by omega) x _ _ _ HS.out (HXC.out _ _ (HCD.out _ (Kd.R_reads' (Sep.R HS.out.drop.drop)).2.2)) (fun _ _ h => h) (by repeat (first | exact HB.out | apply below_alloc | apply pw_below_drewN | apply below_drew1)) (by exact HAL.out) rfl rfl ?_); (intro v_ w_ F_ hs_ hb_); (obtain ⟨O7, hy_⟩ : ∃ y_, y_ = ([] : List Int) ++ x := ⟨_, rfl⟩; rw [← hy_] at hs_; have HO7 := Aside0.mk hy_; clear hy_ HB HS; have HB := Aside0.mk hb_; have HS := Aside0.mk hs_; clear hs_ hb_; obtain ⟨A_, c_, e_⟩ := Kd.R_slice (Sep.R HS.out); subst e_); (have ho7 : x = O7 := (by rw [HO7.out]; rfl); clear HO7; subst ho7))
    | (go_at_call 90; ((with_reducible refine (rseal_n A_ c_ x.length x O8 _ rfl HO8.out (Kd.R_reads' (Sep.R HS.out)).2.2 (Kd.R_reads' (Sep.R HS.out)).2.1 HXM.out HXB.out).mono ?_); rintro e w8 ⟨v8, rfl, ho, hb⟩; clear hc0; obtain ⟨A8, c8_, e_⟩ := Kd.R_slice ho; rw [HL8.out] at e_; subst e_; obtain ⟨F8, hs_⟩ := Sep.newrow (by repeat (first | exact HS.out | apply sep_alloc | apply sep_drewN | apply sep_drew)) hb (below_size (by repeat (first | exact HB.out | apply below_alloc | apply pw_below_drewN | apply below_drew1))) ho; have n0_ := Aside0.mk (below_step (by repeat (first | exact HB.out | apply below_alloc | apply pw_below_drewN | apply below_drew1)) hb); clear HB HS hb ho; have HB := n0_; have HS := Aside0.mk hs_; clear n0_ hs_)))
   refine start_ (n := 15) (S := fun w' => (convert 24 9 (.slice A8 L c8_)).run Try.prog w' = .ok (.string sV) w' ∧ (convert 24 9 (.slice A0 L c0)).run Try.prog w' = .ok (.string sU) w') (ds := []) #[false, false, false, false, false, false, false, false, false, false, false, false, false, false, false] (by kernel_rfl) rfl rfl ⟨(by rw [HSV.out]; exact own_string Try.underlying24 Try.underlying5 Try.underlying9 (Kd.own_of_R (Sep.R (sep_drew HS.out)))), (by rw [HSU.out]; exact Kd.C_string Try.underlying24 Try.underlying5 Try.underlying9 (Kd.C_below HC5.out (below_drew HB.out)))⟩ (fun hHeld => ?_)
   have n0_ := Aside0.mk (below_drew HB.out)
   have n1_ := Aside0.mk (sep_drew HS.out)
   clear HB HS
   have HB := n0_
   have HS := n1_
   clear n0_ n1_
   generalize (World.drew w8) = wd_ at HB HS hHeld ⊢
   refine pure_ (i := 0) (N := some 40) (v := ?_) (a' := ?_) #[true, false, false, false, false, false, false, false, false, false, false, false, false, false, false] rfl rfl (by kernel_rfl) (fun _ _ _ h => h) (Or.inl ⟨by rfl, ?_⟩) ?_ ?_
   rotate_left
   ·intro w'
    go_simp
    with_reducible rfl
   rotate_left
   ·simp only [Act.put, sA_, sB_, sC_, i64_w, i32_w]
    rfl
   refine pure_ (i := 1) (N := some 41) (v := ?_) (a' := ?_) #[true, true, false, false, false, false, false, false, false, false, false, false, false, false, false] rfl rfl (by kernel_rfl) (fun _ _ _ h => h) (Or.inl ⟨by rfl, ?_⟩) ?_ ?_
   rotate_left
   ·intro w'
    go_simp
    with_reducible rfl
   rotate_left
   ·simp only [Act.put, sA_, sB_, sC_, i64_w, i32_w]
    rfl
   refine pure_ (i := 2) (N := some 42) (v := ?_) (a' := ?_) #[true, true, true, false, false, false, false, false, false, false, false, false, false, false, false] rfl rfl (by kernel_rfl) (fun _ _ _ h => h) (Or.inl ⟨by rfl, ?_⟩) ?_ ?_
   rotate_left
   ·intro w'
    go_simp
    with_reducible rfl
   rotate_left
   ·simp only [Act.put, sA_, sB_, sC_, i64_w, i32_w]
    rfl
   refine pure_ (i := 3) (N := some 43) (v := ?_) (a' := ?_) #[true, true, true, true, false, false, false, false, false, false, false, false, false, false, false] rfl rfl (by kernel_rfl) (fun _ _ _ h => h) (Or.inl ⟨by rfl, ?_⟩) ?_ ?_
   rotate_left
   ·intro w'
    go_simp
    with_reducible rfl
   rotate_left
   ·simp only [Act.put, sA_, sB_, sC_, i64_w, i32_w]
    rfl
   refine pure_ (i := 4) (N := some 44) (v := ?_) (a' := ?_) #[true, true, true, true, true, false, false, false, false, false, false, false, false, false, false] rfl rfl (by kernel_rfl) (fun _ _ _ h => h) (Or.inl ⟨by rfl, ?_⟩) ?_ ?_
   rotate_left
   ·intro w'
    go_simp
    with_reducible rfl
   rotate_left
   ·simp only [Act.put, sA_, sB_, sC_, i64_w, i32_w]
    rfl
   refine pure_ (i := 5) (N := some 45) (v := ?_) (a' := ?_) #[true, true, true, true, true, true, false, false, false, false, false, false, false, false, false] rfl rfl (by kernel_rfl) (fun _ _ _ h => h) (Or.inl ⟨by rfl, ?_⟩) ?_ ?_
   rotate_left
   ·intro w'
    go_simp
    with_reducible rfl
   rotate_left
   ·simp only [Act.put, sA_, sB_, sC_, i64_w, i32_w]
    rfl
   refine pure_ (i := 6) (N := some 46) (v := ?_) (a' := ?_) #[true, true, true, true, true, true, true, false, false, false, false, false, false, false, false] rfl rfl (by kernel_rfl) (fun _ _ _ h => h) (Or.inl ⟨by rfl, ?_⟩) ?_ ?_
   rotate_left
   ·intro w'
    go_simp
    with_reducible rfl
   rotate_left
   ·simp only [Act.put, sA_, sB_, sC_, i64_w, i32_w]
    rfl
   refine pure_ (i := 8) (N := some 48) (v := ?_) (a' := ?_) #[true, true, true, true, true, true, true, false, true, false, false, false, false, false, false] rfl rfl (by kernel_rfl) (fun _ _ _ h => h) (Or.inl ⟨by rfl, ?_⟩) ?_ ?_
   rotate_left
   ·intro w'
    go_simp
    with_reducible rfl
   rotate_left
   ·simp only [Act.put, sA_, sB_, sC_, i64_w, i32_w]
    rfl
   refine pure_ (i := 9) (N := some 49) (v := ?_) (a' := ?_) #[true, true, true, true, true, true, true, false, true, true, false, false, false, false, false] rfl rfl (by kernel_rfl) (fun _ _ _ h => h) (Or.inl ⟨by rfl, ?_⟩) ?_ ?_
   rotate_left
   ·intro w'
    go_simp
    with_reducible rfl
   rotate_left
   ·simp only [Act.put, sA_, sB_, sC_, i64_w, i32_w]
    rfl
   refine pure_ (i := 10) (N := some 50) (v := ?_) (a' := ?_) #[true, true, true, true, true, true, true, false, true, true, true, false, false, false, false] rfl rfl (by kernel_rfl) (fun _ _ _ h => h) (Or.inl ⟨by rfl, ?_⟩) ?_ ?_
   rotate_left
   ·intro w'
    go_simp
    with_reducible rfl
   rotate_left
   ·simp only [Act.put, sA_, sB_, sC_, i64_w, i32_w]
    rfl
   refine pure_ (i := 11) (N := some 51) (v := ?_) (a' := ?_) #[true, true, true, true, true, true, true, false, true, true, true, true, false, false, false] rfl rfl (by kernel_rfl) (fun _ _ _ h => h) (Or.inl ⟨by rfl, ?_⟩) ?_ ?_
   rotate_left
   ·intro w'
    go_simp
    with_reducible rfl
   rotate_left
   ·simp only [Act.put, sA_, sB_, sC_, i64_w, i32_w]
    rfl
   refine take_ (i := 7) (N := some 47) (v := ?_) (a' := ?_) #[true, true, true, true, true, true, true, true, true, true, true, true, false, false, false] rfl rfl (by kernel_rfl) (fun _ _ _ h => h) (Or.inl ⟨by rfl, ?_⟩) hHeld ?_ ?_
   rotate_left
   ·rintro w' ⟨s0, s1⟩
    go_simp
    with_reducible rfl
   rotate_left
   ·simp only [Act.put, sA_, sB_, sC_, i64_w, i32_w]
    rfl
   refine take_ (i := 12) (N := some 52) (v := ?_) (a' := ?_) #[true, true, true, true, true, true, true, true, true, true, true, true, true, false, false] rfl rfl (by kernel_rfl) (fun _ _ _ h => h) (Or.inl ⟨by rfl, ?_⟩) hHeld ?_ ?_
   rotate_left
   ·rintro w' ⟨s0, s1⟩
    go_simp
    with_reducible rfl
   rotate_left
   ·simp only [Act.put, sA_, sB_, sC_, i64_w, i32_w]
    rfl
   refine pure_ (i := 13) (N := some 53) (v := ?_) (a' := ?_) #[true, true, true, true, true, true, true, true, true, true, true, true, true, true, false] rfl rfl (by kernel_rfl) (fun _ _ _ h => h) (Or.inl ⟨by rfl, ?_⟩) ?_ ?_
   rotate_left
   ·intro w'
    go_simp
    with_reducible rfl
   rotate_left
   ·simp only [Act.put, sA_, sB_, sC_, i64_w, i32_w]
    rfl
   refine pure_ (i := 14) (N := some 54) (v := ?_) (a' := ?_) #[true, true, true, true, true, true, true, true, true, true, true, true, true, true, true] rfl rfl (by kernel_rfl) (fun _ _ _ h => h) (Or.inl ⟨by rfl, ?_⟩) ?_ ?_
   rotate_left
   ·intro w'
    go_simp
    with_reducible rfl
   rotate_left
   ·simp only [Act.put, sA_, sB_, sC_, i64_w, i32_w]
    rfl
   refine done_ (by kernel_rfl) ?_
   go_wp2_with (first
    | ((with_reducible refine gate_dst (N := 56) rfl ?_); (try (refine gate_guard (by rfl) ?_; dsimp only)); (refine wp_lit (Kd.int .u8) (w0 := w) ?hg_ (N := 56) ?hd_ 5 (([] : List Int)) [] ?hr_ ?hp_ (by repeat (first | exact HS.out | apply sep_alloc | apply sep_drewN | apply sep_drew)) (by repeat (first | exact HB.out | apply below_alloc | apply pw_below_drewN | apply below_drew1)) (by simp) ?_; (case hd_ => rfl); (case hg_ => rfl); (case hr_ => first | (go_simp; done) | (go_simp; rfl)); (case hp_ => exact (Reps.none _ _))); intro v_ w_ F_ hs_ hb_; clear HB HS; have HB := Aside0.mk hb_; have HS := Aside0.mk hs_; clear hs_ hb_; obtain ⟨A_, c_, e_⟩ := Kd.R_slice (Sep.R HS.out); subst e_; (skip))
    | ((with_reducible refine gate_builtin (b := .append) (xs := #[.tmp 56, .tmp 60]) rfl ?_); (refine wp_append_row (Kd.int .u8) (w0 := w) rfl (.tmp 56) (.tmp 60) 24 5 (.int .u8 0) 1 rfl Try.underlying24 info5 rfl (by decide) (by omega) u _ _ _ HS.out (Kd.C_below HC7.out HB.out) (fun _ _ h => h) (by repeat (first | exact HB.out | apply below_alloc | apply pw_below_drewN | apply below_drew1)) (by exact HBL.out) rfl rfl ?_); (intro v_ w_ F_ hs_ hb_); (obtain ⟨O9, hy_⟩ : ∃ y_, y_ = ([] : List Int) ++ u := ⟨_, rfl⟩; rw [← hy_] at hs_; have HO9 := Aside0.mk hy_; clear hy_ HB HS; have HB := Aside0.mk hb_; have HS := Aside0.mk hs_; clear hs_ hb_; obtain ⟨A_, c_, e_⟩ := Kd.R_slice (Sep.R HS.out); subst e_); (skip)))
   go_ret3
   have ho9 : u = O9 := (by rw [HO9.out]; rfl)
   clear HO9
   subst ho9
   refine .inl ⟨HEQ.out, ⟨_, A_, c_, ?_, Kd.R_mono (Sep.R HS.out.drop.drop) (fun _ _ => trivial)⟩, HB.out⟩
   rw [HNU.out]
   first | rfl | simp
  ·have c8 := bytes_ne heq
   have HEQ := Aside0.mk (show F5 ≠ O8 from fun h => heq (hVU.2 h.symm))
   clear heq hVU hsV hsU
   go_enter Try.func94, Try.ntmps94
   go_wp2_with (first
    | ((with_reducible refine gate_dst (N := 9) rfl ?_); (try (refine gate_guard (by rfl) ?_; dsimp only)); (refine wp_lit (Kd.int .u8) (w0 := w) ?hg_ (N := 9) ?hd_ 5 (([] : List Int)) [] ?hr_ ?hp_ (by repeat (first | exact HS.out | apply sep_alloc | apply sep_drewN | apply sep_drew)) (by repeat (first | exact HB.out | apply below_alloc | apply pw_below_drewN | apply below_drew1)) (by simp) ?_; (case hd_ => rfl); (case hg_ => rfl); (case hr_ => first | (go_simp; done) | (go_simp; rfl)); (case hp_ => exact (Reps.none _ _))); intro v_ w_ F_ hs_ hb_; clear HB HS; have HB := Aside0.mk hb_; have HS := Aside0.mk hs_; clear hs_ hb_; obtain ⟨A_, c_, e_⟩ := Kd.R_slice (Sep.R HS.out); subst e_; (skip))
    | ((with_reducible refine gate_builtin (b := .append) (xs := #[.tmp 9, .tmp 10]) rfl ?_); (refine wp_append_row (Kd.int .u8) (w0 := w) rfl (.tmp 9) (.tmp 10) 24 5 (.int .u8 0) 1 rfl Try.underlying24 info5 rfl (by decide) (by omega) b _ _ _ HS.out (Kd.C_below HR.out HB.out) (fun _ _ h => h) (by repeat (first | exact HB.out | apply below_alloc | apply pw_below_drewN | apply below_drew1)) (by have := HL.out; simp; omega) rfl rfl ?_); (intro v_ w_ F_ hs_ hb_); (obtain ⟨O0, hy_⟩ : ∃ y_, y_ = ([] : List Int) ++ b := ⟨_, rfl⟩; rw [← hy_] at hs_; have HO0 := Aside0.mk hy_; clear hy_ HB HS; have HB := Aside0.mk hb_; have HS := Aside0.mk hs_; clear hs_ hb_; obtain ⟨A_, c_, e_⟩ := Kd.R_slice (Sep.R HS.out); subst e_); (have ho0 : b = O0 := (by rw [HO0.out]; rfl); clear HO0; subst ho0))
    | ((with_reducible refine gate_dst (N := 13) rfl ?_); (try (refine gate_guard (by rfl) ?_; dsimp only)); refine box_event ?hg (N := 13) ?hd (cs := #[.slice A_ b.length c_, .bool false]) (t := 104) ?hr ?_; (case hd => rfl); (case hg => rfl); (case hr => first | (go_simp; done) | (go_simp; rfl)); intro g hg w5 hbox hb; have n0_ := Aside0.mk (below_step (by repeat (first | exact HB.out | apply below_alloc | apply pw_below_drewN | apply below_drew1)) hb); have n1_ := Aside0.mk (Sep.newbox (by repeat (first | exact HS.out | apply sep_alloc | apply sep_drewN | apply sep_drew)) hb (Nat.le_of_eq hg.symm) (below_size (by repeat (first | exact HB.out | apply below_alloc | apply pw_below_drewN | apply below_drew1))) hbox); clear HB HS; have HB := n0_; have HS := n1_; clear n0_ n1_ hb hbox hg)
    | (go_at_call 79; ((with_reducible refine (rnum_yes m r HM.out g A_ c_ b HBR.out false w _ HB.out HS.out.own (Kd.R_reads' (Sep.R HS.out.drop)).2.2 (Kd.R_reads' (Sep.R HS.out.drop)).2.1 HBY.out HL.out).mono ?_); rintro e w2 ⟨A2, c2, rfl, hlc, hcd, ht⟩; rw [← HNR.out] at ht hlc; have HCD := Aside0.mk hcd; have hto := HTO.out A2 c2 hlc; rw [Int.toNat_natCast] at hto; clear hlc hcd; obtain ⟨F_, hs_⟩ := Turned.sep ht (HS.out) rfl; have n0_ := Aside0.mk (Turned.below ht); clear HB HS ht; have HB := n0_; have HS := Aside0.mk hs_; clear n0_ hs_; have hc0 := Sep.c20 HS.out; have hc1 := Sep.c21 HS.out))
    | ((with_reducible refine gate_dst (N := 30) rfl ?_); (try (refine gate_guard (by rfl) ?_; dsimp only)); (refine wp_lit (Kd.int .u8) (w0 := w) ?hg_ (N := 30) ?hd_ 5 (([] : List Int)) [] ?hr_ ?hp_ (by repeat (first | exact HS.out | apply sep_alloc | apply sep_drewN | apply sep_drew)) (by repeat (first | exact HB.out | apply below_alloc | apply pw_below_drewN | apply below_drew1)) (by simp) ?_; (case hd_ => rfl); (case hg_ => rfl); (case hr_ => first | (go_simp; done) | (go_simp; rfl)); (case hp_ => exact (Reps.none _ _))); intro v_ w_ F_ hs_ hb_; clear HB HS; have HB := Aside0.mk hb_; have HS := Aside0.mk hs_; clear hs_ hb_; obtain ⟨A_, c_, e_⟩ := Kd.R_slice (Sep.R HS.out); subst e_; (clear hc0 hc1; have hc0 := Sep.c20 HS.out.p2))
    | ((with_reducible refine gate_builtin (b := .append) (xs := #[.tmp 30, .tmp 36]) rfl ?_); (refine wp_append_row (Kd.int .u8) (w0 := w) rfl (.tmp 30) (.tmp 36) 24 5 (.int .u8 0) 1 rfl Try.underlying24 info5 rfl (by decide) (by omega) x _ _ _ HS.out (HXC.out _ _ (HCD.out _ (Kd.R_reads' (Sep.R HS.out.drop.drop)).2.2)) (fun _ _ h => h) (by repeat (first | exact HB.out | apply below_alloc | apply pw_below_drewN | apply below_drew1)) (by exact HAL.out) rfl rfl ?_); (intro v_ w_ F_ hs_ hb_); (obtain ⟨O7, hy_⟩ : ∃ y_, y_ = ([] : List Int) ++ x := ⟨_, rfl⟩; rw [← hy_] at hs_; have HO7 := Aside0.mk hy_; clear hy_ HB HS; have HB := Aside0.mk hb_; have HS := Aside0.mk hs_; clear hs_ hb_; obtain ⟨A_, c_, e_⟩ := Kd.R_slice (Sep.R HS.out); subst e_); (have ho7 : x = O7 := (by rw [HO7.out]; rfl); clear HO7; subst ho7))
    | (go_at_call 90; ((with_reducible refine (rseal_n A_ c_ x.length x O8 _ rfl HO8.out (Kd.R_reads' (Sep.R HS.out)).2.2 (Kd.R_reads' (Sep.R HS.out)).2.1 HXM.out HXB.out).mono ?_); rintro e w8 ⟨v8, rfl, ho, hb⟩; clear hc0; obtain ⟨A8, c8_, e_⟩ := Kd.R_slice ho; rw [HL8.out] at e_; subst e_; obtain ⟨F8, hs_⟩ := Sep.newrow (by repeat (first | exact HS.out | apply sep_alloc | apply sep_drewN | apply sep_drew)) hb (below_size (by repeat (first | exact HB.out | apply below_alloc | apply pw_below_drewN | apply below_drew1))) ho; have n0_ := Aside0.mk (below_step (by repeat (first | exact HB.out | apply below_alloc | apply pw_below_drewN | apply below_drew1)) hb); clear HB HS hb ho; have HB := n0_; have HS := Aside0.mk hs_; clear n0_ hs_)))
   refine start_ (n := 15) (S := fun w' => (convert 24 9 (.slice A8 L c8_)).run Try.prog w' = .ok (.string sV) w' ∧ (convert 24 9 (.slice A0 L c0)).run Try.prog w' = .ok (.string sU) w') (ds := []) #[false, false, false, false, false, false, false, false, false, false, false, false, false, false, false] (by kernel_rfl) rfl rfl ⟨(by rw [HSV.out]; exact own_string Try.underlying24 Try.underlying5 Try.underlying9 (Kd.own_of_R (Sep.R (sep_drew HS.out)))), (by rw [HSU.out]; exact Kd.C_string Try.underlying24 Try.underlying5 Try.underlying9 (Kd.C_below HC5.out (below_drew HB.out)))⟩ (fun hHeld => ?_)
   have n0_ := Aside0.mk (below_drew HB.out)
   have n1_ := Aside0.mk (sep_drew HS.out)
   clear HB HS
   have HB := n0_
   have HS := n1_
   clear n0_ n1_
   generalize (World.drew w8) = wd_ at HB HS hHeld ⊢
   refine pure_ (i := 0) (N := some 40) (v := ?_) (a' := ?_) #[true, false, false, false, false, false, false, false, false, false, false, false, false, false, false] rfl rfl (by kernel_rfl) (fun _ _ _ h => h) (Or.inl ⟨by rfl, ?_⟩) ?_ ?_
   rotate_left
   ·intro w'
    go_simp
    with_reducible rfl
   rotate_left
   ·simp only [Act.put, sA_, sB_, sC_, i64_w, i32_w]
    rfl
   refine pure_ (i := 1) (N := some 41) (v := ?_) (a' := ?_) #[true, true, false, false, false, false, false, false, false, false, false, false, false, false, false] rfl rfl (by kernel_rfl) (fun _ _ _ h => h) (Or.inl ⟨by rfl, ?_⟩) ?_ ?_
   rotate_left
   ·intro w'
    go_simp
    with_reducible rfl
   rotate_left
   ·simp only [Act.put, sA_, sB_, sC_, i64_w, i32_w]
    rfl
   refine pure_ (i := 2) (N := some 42) (v := ?_) (a' := ?_) #[true, true, true, false, false, false, false, false, false, false, false, false, false, false, false] rfl rfl (by kernel_rfl) (fun _ _ _ h => h) (Or.inl ⟨by rfl, ?_⟩) ?_ ?_
   rotate_left
   ·intro w'
    go_simp
    with_reducible rfl
   rotate_left
   ·simp only [Act.put, sA_, sB_, sC_, i64_w, i32_w]
    rfl
   refine pure_ (i := 3) (N := some 43) (v := ?_) (a' := ?_) #[true, true, true, true, false, false, false, false, false, false, false, false, false, false, false] rfl rfl (by kernel_rfl) (fun _ _ _ h => h) (Or.inl ⟨by rfl, ?_⟩) ?_ ?_
   rotate_left
   ·intro w'
    go_simp
    with_reducible rfl
   rotate_left
   ·simp only [Act.put, sA_, sB_, sC_, i64_w, i32_w]
    rfl
   refine pure_ (i := 4) (N := some 44) (v := ?_) (a' := ?_) #[true, true, true, true, true, false, false, false, false, false, false, false, false, false, false] rfl rfl (by kernel_rfl) (fun _ _ _ h => h) (Or.inl ⟨by rfl, ?_⟩) ?_ ?_
   rotate_left
   ·intro w'
    go_simp
    with_reducible rfl
   rotate_left
   ·simp only [Act.put, sA_, sB_, sC_, i64_w, i32_w]
    rfl
   refine pure_ (i := 5) (N := some 45) (v := ?_) (a' := ?_) #[true, true, true, true, true, true, false, false, false, false, false, false, false, false, false] rfl rfl (by kernel_rfl) (fun _ _ _ h => h) (Or.inl ⟨by rfl, ?_⟩) ?_ ?_
   rotate_left
   ·intro w'
    go_simp
    with_reducible rfl
   rotate_left
   ·simp only [Act.put, sA_, sB_, sC_, i64_w, i32_w]
    rfl
   refine pure_ (i := 6) (N := some 46) (v := ?_) (a' := ?_) #[true, true, true, true, true, true, true, false, false, false, false, false, false, false, false] rfl rfl (by kernel_rfl) (fun _ _ _ h => h) (Or.inl ⟨by rfl, ?_⟩) ?_ ?_
   rotate_left
   ·intro w'
    go_simp
    with_reducible rfl
   rotate_left
   ·simp only [Act.put, sA_, sB_, sC_, i64_w, i32_w]
    rfl
   refine pure_ (i := 8) (N := some 48) (v := ?_) (a' := ?_) #[true, true, true, true, true, true, true, false, true, false, false, false, false, false, false] rfl rfl (by kernel_rfl) (fun _ _ _ h => h) (Or.inl ⟨by rfl, ?_⟩) ?_ ?_
   rotate_left
   ·intro w'
    go_simp
    with_reducible rfl
   rotate_left
   ·simp only [Act.put, sA_, sB_, sC_, i64_w, i32_w]
    rfl
   refine pure_ (i := 9) (N := some 49) (v := ?_) (a' := ?_) #[true, true, true, true, true, true, true, false, true, true, false, false, false, false, false] rfl rfl (by kernel_rfl) (fun _ _ _ h => h) (Or.inl ⟨by rfl, ?_⟩) ?_ ?_
   rotate_left
   ·intro w'
    go_simp
    with_reducible rfl
   rotate_left
   ·simp only [Act.put, sA_, sB_, sC_, i64_w, i32_w]
    rfl
   refine pure_ (i := 10) (N := some 50) (v := ?_) (a' := ?_) #[true, true, true, true, true, true, true, false, true, true, true, false, false, false, false] rfl rfl (by kernel_rfl) (fun _ _ _ h => h) (Or.inl ⟨by rfl, ?_⟩) ?_ ?_
   rotate_left
   ·intro w'
    go_simp
    with_reducible rfl
   rotate_left
   ·simp only [Act.put, sA_, sB_, sC_, i64_w, i32_w]
    rfl
   refine pure_ (i := 11) (N := some 51) (v := ?_) (a' := ?_) #[true, true, true, true, true, true, true, false, true, true, true, true, false, false, false] rfl rfl (by kernel_rfl) (fun _ _ _ h => h) (Or.inl ⟨by rfl, ?_⟩) ?_ ?_
   rotate_left
   ·intro w'
    go_simp
    with_reducible rfl
   rotate_left
   ·simp only [Act.put, sA_, sB_, sC_, i64_w, i32_w]
    rfl
   refine take_ (i := 7) (N := some 47) (v := ?_) (a' := ?_) #[true, true, true, true, true, true, true, true, true, true, true, true, false, false, false] rfl rfl (by kernel_rfl) (fun _ _ _ h => h) (Or.inl ⟨by rfl, ?_⟩) hHeld ?_ ?_
   rotate_left
   ·rintro w' ⟨s0, s1⟩
    go_simp
    with_reducible rfl
   rotate_left
   ·simp only [Act.put, sA_, sB_, sC_, i64_w, i32_w]
    rfl
   refine take_ (i := 12) (N := some 52) (v := ?_) (a' := ?_) #[true, true, true, true, true, true, true, true, true, true, true, true, true, false, false] rfl rfl (by kernel_rfl) (fun _ _ _ h => h) (Or.inl ⟨by rfl, ?_⟩) hHeld ?_ ?_
   rotate_left
   ·rintro w' ⟨s0, s1⟩
    go_simp
    with_reducible rfl
   rotate_left
   ·simp only [Act.put, sA_, sB_, sC_, i64_w, i32_w]
    rfl
   refine pure_ (i := 13) (N := some 53) (v := ?_) (a' := ?_) #[true, true, true, true, true, true, true, true, true, true, true, true, true, true, false] rfl rfl (by kernel_rfl) (fun _ _ _ h => h) (Or.inl ⟨by rfl, ?_⟩) ?_ ?_
   rotate_left
   ·intro w'
    go_simp
    with_reducible rfl
   rotate_left
   ·simp only [Act.put, sA_, sB_, sC_, i64_w, i32_w]
    rfl
   refine pure_ (i := 14) (N := some 54) (v := ?_) (a' := ?_) #[true, true, true, true, true, true, true, true, true, true, true, true, true, true, true] rfl rfl (by kernel_rfl) (fun _ _ _ h => h) (Or.inl ⟨by rfl, ?_⟩) ?_ ?_
   rotate_left
   ·intro w'
    go_simp
    with_reducible rfl
   rotate_left
   ·simp only [Act.put, sA_, sB_, sC_, i64_w, i32_w]
    rfl
   refine done_ (by kernel_rfl) ?_
   go_wp2
   go_ret3
   exact .inr ⟨HEQ.out, rfl, HB.out⟩
 ·have c2b : decide ((b.length : Int) < (L : Int)) = true := decide_eq_true (by omega)
  have c2n : decide (b.length < L) = true := decide_eq_true (by omega)
  have HEQ := Aside0.mk (show b.take L ≠ O8 from fun h => by
   have := congrArg List.length h
   rw [← hL, List.length_take] at this
   omega)
  have hu4 : IntKind.u64.wrap (nr : Int) = (nr : Int) := w_u64 (by omega) (by omega)
  clear hi05 hsz5 hbr hmr hl hby hc0 hr0 hnr hnl hlong hL hO8 hbl hx hxl
  go_enter Try.func94, Try.ntmps94
  go_wp2_with (first
   | ((with_reducible refine gate_dst (N := 9) rfl ?_); (try (refine gate_guard (by rfl) ?_; dsimp only)); (refine wp_lit (Kd.int .u8) (w0 := w) ?hg_ (N := 9) ?hd_ 5 (([] : List Int)) [] ?hr_ ?hp_ (by repeat (first | exact HS.out | apply sep_alloc | apply sep_drewN | apply sep_drew)) (by repeat (first | exact HB.out | apply below_alloc | apply pw_below_drewN | apply below_drew1)) (by simp) ?_; (case hd_ => rfl); (case hg_ => rfl); (case hr_ => first | (go_simp; done) | (go_simp; rfl)); (case hp_ => exact (Reps.none _ _))); intro v_ w_ F_ hs_ hb_; clear HB HS; have HB := Aside0.mk hb_; have HS := Aside0.mk hs_; clear hs_ hb_; obtain ⟨A_, c_, e_⟩ := Kd.R_slice (Sep.R HS.out); subst e_; (skip))
   | ((with_reducible refine gate_builtin (b := .append) (xs := #[.tmp 9, .tmp 10]) rfl ?_); (refine wp_append_row (Kd.int .u8) (w0 := w) rfl (.tmp 9) (.tmp 10) 24 5 (.int .u8 0) 1 rfl Try.underlying24 info5 rfl (by decide) (by omega) b _ _ _ HS.out (Kd.C_below HR.out HB.out) (fun _ _ h => h) (by repeat (first | exact HB.out | apply below_alloc | apply pw_below_drewN | apply below_drew1)) (by have := HL.out; simp; omega) rfl rfl ?_); (intro v_ w_ F_ hs_ hb_); (obtain ⟨O0, hy_⟩ : ∃ y_, y_ = ([] : List Int) ++ b := ⟨_, rfl⟩; rw [← hy_] at hs_; have HO0 := Aside0.mk hy_; clear hy_ HB HS; have HB := Aside0.mk hb_; have HS := Aside0.mk hs_; clear hs_ hb_; obtain ⟨A_, c_, e_⟩ := Kd.R_slice (Sep.R HS.out); subst e_); (have ho0 : b = O0 := (by rw [HO0.out]; rfl); clear HO0; subst ho0))
   | ((with_reducible refine gate_dst (N := 13) rfl ?_); (try (refine gate_guard (by rfl) ?_; dsimp only)); refine box_event ?hg (N := 13) ?hd (cs := #[.slice A_ b.length c_, .bool false]) (t := 104) ?hr ?_; (case hd => rfl); (case hg => rfl); (case hr => first | (go_simp; done) | (go_simp; rfl)); intro g hg w5 hbox hb; have n0_ := Aside0.mk (below_step (by repeat (first | exact HB.out | apply below_alloc | apply pw_below_drewN | apply below_drew1)) hb); have n1_ := Aside0.mk (Sep.newbox (by repeat (first | exact HS.out | apply sep_alloc | apply sep_drewN | apply sep_drew)) hb (Nat.le_of_eq hg.symm) (below_size (by repeat (first | exact HB.out | apply below_alloc | apply pw_below_drewN | apply below_drew1))) hbox); clear HB HS; have HB := n0_; have HS := n1_; clear n0_ n1_ hb hbox hg)
   | (go_at_call 79; ((with_reducible refine (rnum_yes m r HM.out g A_ c_ b HBR.out false w _ HB.out HS.out.own (Kd.R_reads' (Sep.R HS.out.drop)).2.2 (Kd.R_reads' (Sep.R HS.out.drop)).2.1 HBY.out HL.out).mono ?_); rintro e w2 ⟨A2, c2, rfl, hlc, hcd, ht⟩; rw [← HNR.out] at ht hlc; have HCD := Aside0.mk hcd; have hto := HTO.out A2 c2 hlc; rw [Int.toNat_natCast] at hto; clear hlc hcd; obtain ⟨F_, hs_⟩ := Turned.sep ht (HS.out) rfl; have n0_ := Aside0.mk (Turned.below ht); clear HB HS ht; have HB := n0_; have HS := Aside0.mk hs_; clear n0_ hs_; have hc0 := Sep.c20 HS.out; have hc1 := Sep.c21 HS.out))
   | ((with_reducible refine gate_dst (N := 30) rfl ?_); (try (refine gate_guard (by rfl) ?_; dsimp only)); (refine wp_lit (Kd.int .u8) (w0 := w) ?hg_ (N := 30) ?hd_ 5 (([] : List Int)) [] ?hr_ ?hp_ (by repeat (first | exact HS.out | apply sep_alloc | apply sep_drewN | apply sep_drew)) (by repeat (first | exact HB.out | apply below_alloc | apply pw_below_drewN | apply below_drew1)) (by simp) ?_; (case hd_ => rfl); (case hg_ => rfl); (case hr_ => first | (go_simp; done) | (go_simp; rfl)); (case hp_ => exact (Reps.none _ _))); intro v_ w_ F_ hs_ hb_; clear HB HS; have HB := Aside0.mk hb_; have HS := Aside0.mk hs_; clear hs_ hb_; obtain ⟨A_, c_, e_⟩ := Kd.R_slice (Sep.R HS.out); subst e_; (clear hc0 hc1; have hc0 := Sep.c20 HS.out.p2))
   | ((with_reducible refine gate_builtin (b := .append) (xs := #[.tmp 30, .tmp 36]) rfl ?_); (refine wp_append_row (Kd.int .u8) (w0 := w) rfl (.tmp 30) (.tmp 36) 24 5 (.int .u8 0) 1 rfl Try.underlying24 info5 rfl (by decide) (by omega) x _ _ _ HS.out (HXC.out _ _ (HCD.out _ (Kd.R_reads' (Sep.R HS.out.drop.drop)).2.2)) (fun _ _ h => h) (by repeat (first | exact HB.out | apply below_alloc | apply pw_below_drewN | apply below_drew1)) (by exact HAL.out) rfl rfl ?_); (intro v_ w_ F_ hs_ hb_); (obtain ⟨O7, hy_⟩ : ∃ y_, y_ = ([] : List Int) ++ x := ⟨_, rfl⟩; rw [← hy_] at hs_; have HO7 := Aside0.mk hy_; clear hy_ HB HS; have HB := Aside0.mk hb_; have HS := Aside0.mk hs_; clear hs_ hb_; obtain ⟨A_, c_, e_⟩ := Kd.R_slice (Sep.R HS.out); subst e_); (have ho7 : x = O7 := (by rw [HO7.out]; rfl); clear HO7; subst ho7))
   | (go_at_call 90; ((with_reducible refine (rseal_n A_ c_ x.length x O8 _ rfl HO8.out (Kd.R_reads' (Sep.R HS.out)).2.2 (Kd.R_reads' (Sep.R HS.out)).2.1 HXM.out HXB.out).mono ?_); rintro e w8 ⟨v8, rfl, ho, hb⟩; clear hc0; obtain ⟨A8, c8_, e_⟩ := Kd.R_slice ho; rw [HL8.out] at e_; subst e_; obtain ⟨F8, hs_⟩ := Sep.newrow (by repeat (first | exact HS.out | apply sep_alloc | apply sep_drewN | apply sep_drew)) hb (below_size (by repeat (first | exact HB.out | apply below_alloc | apply pw_below_drewN | apply below_drew1))) ho; have n0_ := Aside0.mk (below_step (by repeat (first | exact HB.out | apply below_alloc | apply pw_below_drewN | apply below_drew1)) hb); clear HB HS hb ho; have HB := n0_; have HS := Aside0.mk hs_; clear n0_ hs_)))
  refine start_ (n := 15) (S := fun w' => True) (ds := []) #[false, false, false, false, false, false, false, false, false, false, false, false, false, false, false] (by kernel_rfl) rfl rfl trivial (fun hHeld => ?_)
  have n0_ := Aside0.mk (below_drew HB.out)
  have n1_ := Aside0.mk (sep_drew HS.out)
  clear HB HS
  have HB := n0_
  have HS := n1_
  clear n0_ n1_
  generalize (World.drew w8) = wd_ at HB HS hHeld ⊢
  refine pure_ (i := 0) (N := some 40) (v := ?_) (a' := ?_) #[true, false, false, false, false, false, false, false, false, false, false, false, false, false, false] rfl rfl (by kernel_rfl) (fun _ _ _ h => h) (Or.inl ⟨by rfl, ?_⟩) ?_ ?_
  rotate_left
  ·intro w'
   go_simp
   with_reducible rfl
  rotate_left
  ·simp only [Act.put, sA_, sB_, sC_, i64_w, i32_w]
   rfl
  refine pure_ (i := 1) (N := some 41) (v := ?_) (a' := ?_) #[true, true, false, false, false, false, false, false, false, false, false, false, false, false, false] rfl rfl (by kernel_rfl) (fun _ _ _ h => h) (Or.inl ⟨by rfl, ?_⟩) ?_ ?_
  rotate_left
  ·intro w'
   go_simp
   with_reducible rfl
  rotate_left
  ·simp only [Act.put, sA_, sB_, sC_, i64_w, i32_w]
   rfl
  refine pure_ (i := 2) (N := some 42) (v := ?_) (a' := ?_) #[true, true, true, false, false, false, false, false, false, false, false, false, false, false, false] rfl rfl (by kernel_rfl) (fun _ _ _ h => h) (Or.inl ⟨by rfl, ?_⟩) ?_ ?_
  rotate_left
  ·intro w'
   go_simp
   with_reducible rfl
  rotate_left
  ·simp only [Act.put, sA_, sB_, sC_, i64_w, i32_w]
   rfl
  refine pure_ (i := 3) (N := some 43) (v := ?_) (a' := ?_) #[true, true, true, true, false, false, false, false, false, false, false, false, false, false, false] rfl rfl (by kernel_rfl) (fun _ _ _ h => h) (Or.inl ⟨by rfl, ?_⟩) ?_ ?_
  rotate_left
  ·intro w'
   go_simp
   with_reducible rfl
  rotate_left
  ·simp only [Act.put, sA_, sB_, sC_, i64_w, i32_w]
   rfl
  refine pure_ (i := 4) (N := some 44) (v := ?_) (a' := ?_) #[true, true, true, true, true, false, false, false, false, false, false, false, false, false, false] rfl rfl (by kernel_rfl) (fun _ _ _ h => h) (Or.inl ⟨by rfl, ?_⟩) ?_ ?_
  rotate_left
  ·intro w'
   go_simp
   with_reducible rfl
  rotate_left
  ·simp only [Act.put, sA_, sB_, sC_, i64_w, i32_w]
   rfl
  refine pure_ (i := 5) (N := some 45) (v := ?_) (a' := ?_) #[true, true, true, true, true, true, false, false, false, false, false, false, false, false, false] rfl rfl (by kernel_rfl) (fun _ _ _ h => h) (Or.inl ⟨by rfl, ?_⟩) ?_ ?_
  rotate_left
  ·intro w'
   go_simp
   with_reducible rfl
  rotate_left
  ·simp only [Act.put, sA_, sB_, sC_, i64_w, i32_w]
   rfl
  refine pure_ (i := 6) (N := some 46) (v := undef) (a' := ?_) #[true, true, true, true, true, true, true, false, false, false, false, false, false, false, false] rfl rfl (by kernel_rfl) (fun _ _ _ h => h) (Or.inr ⟨by rfl, rfl⟩) ?_ ?_
  rotate_left
  ·simp only [Act.put, sA_, sB_, sC_, i64_w, i32_w]
   rfl
  refine pure_ (i := 7) (N := some 47) (v := undef) (a' := ?_) #[true, true, true, true, true, true, true, true, false, false, false, false, false, false, false] rfl rfl (by kernel_rfl) (fun _ _ _ h => h) (Or.inr ⟨by rfl, rfl⟩) ?_ ?_
  rotate_left
  ·simp only [Act.put, sA_, sB_, sC_, i64_w, i32_w]
   rfl
  refine pure_ (i := 8) (N := some 48) (v := undef) (a' := ?_) #[true, true, true, true, true, true, true, true, true, false, false, false, false, false, false] rfl rfl (by kernel_rfl) (fun _ _ _ h => h) (Or.inr ⟨by rfl, rfl⟩) ?_ ?_
  rotate_left
  ·simp only [Act.put, sA_, sB_, sC_, i64_w, i32_w]
   rfl
  refine pure_ (i := 9) (N := some 49) (v := undef) (a' := ?_) #[true, true, true, true, true, true, true, true, true, true, false, false, false, false, false] rfl rfl (by kernel_rfl) (fun _ _ _ h => h) (Or.inr ⟨by rfl, rfl⟩) ?_ ?_
  rotate_left
  ·simp only [Act.put, sA_, sB_, sC_, i64_w, i32_w]
   rfl
  refine pure_ (i := 10) (N := some 50) (v := undef) (a' := ?_) #[true, true, true, true, true, true, true, true, true, true, true, false, false, false, false] rfl rfl (by kernel_rfl) (fun _ _ _ h => h) (Or.inr ⟨by rfl, rfl⟩) ?_ ?_
  rotate_left
  ·simp only [Act.put, sA_, sB_, sC_, i64_w, i32_w]
   rfl
  refine pure_ (i := 11) (N := some 51) (v := undef) (a' := ?_) #[true, true, true, true, true, true, true, true, true, true, true, true, false, false, false] rfl rfl (by kernel_rfl) (fun _ _ _ h => h) (Or.inr ⟨by rfl, rfl⟩) ?_ ?_
  rotate_left
  ·simp only [Act.put, sA_, sB_, sC_, i64_w, i32_w]
   rfl
  refine pure_ (i := 12) (N := some 52) (v := undef) (a' := ?_) #[true, true, true, true, true, true, true, true, true, true, true, true, true, false, false] rfl rfl (by kernel_rfl) (fun _ _ _ h => h) (Or.inr ⟨by rfl, rfl⟩) ?_ ?_
  rotate_left
  ·simp only [Act.put, sA_, sB_, sC_, i64_w, i32_w]
   rfl
  refine pure_ (i := 13) (N := some 53) (v := undef) (a' := ?_) #[true, true, true, true, true, true, true, true, true, true, true, true, true, true, false] rfl rfl (by kernel_rfl) (fun _ _ _ h => h) (Or.inr ⟨by rfl, rfl⟩) ?_ ?_
  rotate_left
  ·simp only [Act.put, sA_, sB_, sC_, i64_w, i32_w]
   rfl
  refine pure_ (i := 14) (N := some 54) (v := ?_) (a' := ?_) #[true, true, true, true, true, true, true, true, true, true, true, true, true, true, true] rfl rfl (by kernel_rfl) (fun _ _ _ h => h) (Or.inl ⟨by rfl, ?_⟩) ?_ ?_
  rotate_left
  ·intro w'
   go_simp
   with_reducible rfl
  rotate_left
  ·simp only [Act.put, sA_, sB_, sC_, i64_w, i32_w]
   rfl
  refine done_ (by kernel_rfl) ?_
  go_wp2
  go_ret3
  exact .inr ⟨HEQ.out, rfl, HB.out⟩
theorem rse_calls (A0 : Option Addr) (c0 : Nat) (b : List Int) (w : World) (hr0 : Kd.C (Kd.int .u8) w A0 b.length b) (hc0 : b.length ≤ c0) (hby : Byt b) (hl : b.length < 1000000) :
  Calls Try.prog 94 #[.slice A0 b.length c0] w fun e w' =>
   (∃ x r v1 A2 c2, b = sealL x ++ r ∧ e = .returned (.tuple #[v1, .slice A2 r.length c2, .int .i64 0]) ∧ Kd.R (Kd.int .u8) 5 w' w.heap.size (fun _ => True) v1 x ∧ Below w.heap.size w w') ∨
   ((∀ x r, b ≠ sealL x ++ r) ∧ e = .returned (.tuple #[.slice none 0 0, .slice none 0 0, .int .i64 6]) ∧ Below w.heap.size w w') := by
 by_cases hex : ∃ (m : Nat) (r : List Int), m < 2 ^ 64 ∧ b = varint m ++ r
 ·obtain ⟨m, r, hm, hbr⟩ := hex
  by_cases hmr : m ≤ r.length
  ·refine (rse_at A0 c0 b w hr0 hc0 hby hl m r hbr hmr).mono ?_
   rintro e w' (⟨h1, ⟨v1, A2, c2, h2, h3⟩, h4⟩ | ⟨h1, h2, h3⟩)
   ·exact .inl ⟨_, _, v1, A2, c2, (by
     have h := List.take_append_drop (sealL (r.take m)).length b
     rw [h1] at h
     exact h.symm), h2, h3, h4⟩
   ·exact .inr ⟨fun x t he => seal_first (m := m) (r := r) (hbr ▸ h1) x t (hbr ▸ he), h2, h3⟩
  ·refine (rse_no A0 c0 b w hr0 hc0 hby hl (.inr ⟨m, r, hm, hbr, by omega⟩)).mono ?_
   rintro e w' ⟨h1, h2⟩
   exact .inr ⟨fun x t he => seal_short (m := m) (r := r) (by omega) x t (hbr ▸ he), h1, h2⟩
 ·refine (rse_no A0 c0 b w hr0 hc0 hby hl (.inl fun m r hm he => hex ⟨m, r, hm, he⟩)).mono ?_
  rintro e w' ⟨h1, h2⟩
  refine .inr ⟨fun x t he => hex ⟨x.length, x ++ (footL (sumN (varint x.length ++ x)) ++ t), ?_, ?_⟩, h1, h2⟩
  ·have := congrArg List.length he
   unfold sealL at this
   simp only [List.length_append] at this
   omega
  ·rw [he]
   unfold sealL
   rw [List.append_assoc, List.append_assoc]
theorem rse_made (A0 : Option Addr) (c0 n : Nat) (b x r : List Int) (w : World) (hn : b.length = n) (hb : b = sealL x ++ r) (hr0 : Kd.C (Kd.int .u8) w A0 b.length b) (hc0 : n ≤ c0) (hby : Byt b) (hl : n < 1000000) :
  Calls Try.prog 94 #[.slice A0 n c0] w fun e w' => ∃ v1 A2 c2, e = .returned (.tuple #[v1, .slice A2 r.length c2, .int .i64 0]) ∧ Kd.R (Kd.int .u8) 5 w' w.heap.size (fun _ => True) v1 x ∧ Below w.heap.size w w' := by
 subst hn
 refine (rse_calls A0 c0 b w hr0 hc0 hby hl).mono ?_
 rintro e w' (⟨x1, r1, v1, A2, c2, h1, h2, h3, h4⟩ | ⟨h1, _⟩)
 ·obtain ⟨rfl, rfl⟩ := seal_inj (hb.symm.trans h1)
  exact ⟨v1, A2, c2, h2, h3, h4⟩
 ·exact absurd hb (h1 x r)
theorem rse_none (A0 : Option Addr) (c0 n : Nat) (b : List Int) (w : World) (hn : b.length = n) (hb : ∀ x r, b ≠ sealL x ++ r) (hr0 : Kd.C (Kd.int .u8) w A0 b.length b) (hc0 : n ≤ c0) (hby : Byt b) (hl : n < 1000000) :
  Calls Try.prog 94 #[.slice A0 n c0] w fun e w' => e = .returned (.tuple #[.slice none 0 0, .slice none 0 0, .int .i64 6]) ∧ Below w.heap.size w w' := by
 subst hn
 refine (rse_calls A0 c0 b w hr0 hc0 hby hl).mono ?_
 rintro e w' (⟨x1, r1, v1, A2, c2, h1, _⟩ | ⟨_, h2⟩)
 ·exact absurd h1 (hb x1 r1)
 ·exact h2
end Go.Proofs.Ythkpnnbjcendcaa.Sc
namespace Go.Proofs.Ythkpnnbjcendcaa.Sc
theorem rbput_m (A0 : Option Addr) (c0 n : Nat) (l0 : List S109) (O9 : List Int) (q9 : Int) (w : World) (hn : l0.length = n) (hO : bputR l0 = (O9, q9)) (hr0 : Kd.C k109 w A0 l0.length l0) (hc0 : n ≤ c0) (hl : n < 1000000000) (hE : ∀ c ∈ l0, c.f1.length < 1000000000) :
  Calls Try.prog 54 #[.slice A0 n c0] w fun e w' => ∃ v, e = .returned (.tuple #[v, .int .i64 q9]) ∧ Kd.R (Kd.int .u8) 5 w' w.heap.size (fun _ => True) v O9 ∧ Below w.heap.size w w' := by
 subst hn
 exact rbput_calls A0 c0 l0 O9 q9 w hO hr0 hc0 hl hE
theorem none_len : ∀ c ∈ ([] : List S109), c.f1.length < 1000000000 := fun c hc => absurd hc (List.not_mem_nil)
theorem row_stayR {base g : Nat} {w w2 : World} {F3 : Nat → Prop} {b1 : Nat} {A : Option Addr} {n c : Nat} {x : List Int} {v : Value} {bad : Bool} {rs : List Res} (h : Sep base w (rtR g v bad :: row F3 (Kd.int .u8) 5 b1 (.slice A n c) x :: rs)) (hs : Stay w w2 (fun k => k = g)) : Kd.C (Kd.int .u8) w2 A x.length x :=
 (Kd.R_reads' (show Kd.R (Kd.int .u8) 5 w2 b1 F3 (.slice A n c) x from (h.drop.own.kept hs (fun k hk he => h.apart _ List.mem_cons_self g rfl (he ▸ hk))).now)).2.2
set_option maxHeartbeats 16000000 in
set_option maxRecDepth 100000 in
theorem rbtake_bad (A0 : Option Addr) (c0 : Nat) (b : List Int) (w : World) (hr0 : Kd.C (Kd.int .u8) w A0 b.length b) (hc0 : b.length ≤ c0) (hby : Byt b) (hl : b.length < 1000000)
  (hno : (∀ x r, b ≠ sealL x ++ r) ∨ (∃ x r, b = sealL x ++ r ∧ r ≠ []) ∨ (∃ x, b = sealL x ∧ ∀ m r, m < 2 ^ 64 → x ≠ varint m ++ r)) :
  Calls Try.prog 60 #[.slice A0 b.length c0] w fun e w' => TakeN [] 90 w e w' := by
 have HB := Aside0.mk (Below.refl w.heap.size w)
 have HS := Aside0.mk (Sep.nil w.heap.size w)
 have HR := Aside0.mk hr0
 have HC := Aside0.mk hc0
 have HBY := Aside0.mk hby
 have HL := Aside0.mk hl
 clear hr0 hc0 hby hl
 rcases hno with hno | ⟨x, r, hb, hr⟩ | ⟨x, hb, hno⟩
 ·have HNO := Aside0.mk hno
  clear hno
  go_enter Try.func60, Try.ntmps60
  go_wp2_with (first
   | (go_at_call 94; ((with_reducible refine (rse_none A0 c0 b.length b _ rfl HNO.out (Kd.C_below HR.out HB.out) HC.out HBY.out HL.out).mono ?_); rintro e w1 ⟨rfl, hb⟩; have n0_ := Aside0.mk (below_step (by repeat (first | exact HB.out | apply below_alloc | apply pw_below_drewN | apply below_drew1)) hb); have n1_ := Aside0.mk (Sep.below (by repeat (first | exact HS.out | apply sep_alloc | apply sep_drewN | apply sep_drew)) hb); clear HB HS; have HB := n0_; have HS := n1_; clear n0_ n1_ hb)))
  go_ret2
  exact ⟨_, rfl, Kd.N_nil _ _ _ _ _, HB.out⟩
 ·have HBX := Aside0.mk hb
  obtain ⟨nr, hnr⟩ : ∃ n, n = r.length := ⟨_, rfl⟩
  have hpos : 0 < nr := by rw [hnr]; exact List.length_pos_iff.2 hr
  have HNR := Aside0.mk hnr
  have c1b : decide ((0 : Int) < (nr : Int)) = true := decide_eq_true (by omega)
  have c1n : decide (0 < nr) = true := decide_eq_true hpos
  clear hb hr hnr hpos
  go_enter Try.func60, Try.ntmps60
  go_wp2_with (first
   | (go_at_call 94; ((with_reducible refine (rse_made A0 c0 b.length b x r _ rfl HBX.out (Kd.C_below HR.out HB.out) HC.out HBY.out HL.out).mono ?_); rintro e w1 ⟨v1, A2, c2, rfl, ho, hb⟩; rw [← HNR.out]; obtain ⟨A1, c1, e_⟩ := Kd.R_slice ho; subst e_; obtain ⟨F1, hs_⟩ := Sep.newrow (by repeat (first | exact HS.out | apply sep_alloc | apply sep_drewN | apply sep_drew)) hb (below_size (by repeat (first | exact HB.out | apply below_alloc | apply pw_below_drewN | apply below_drew1))) ho; have n0_ := Aside0.mk (below_step (by repeat (first | exact HB.out | apply below_alloc | apply pw_below_drewN | apply below_drew1)) hb); clear HB HS hb ho; have HB := n0_; have HS := Aside0.mk hs_; clear n0_ hs_)))
  go_ret2
  exact ⟨_, rfl, Kd.N_nil _ _ _ _ _, HB.out⟩
 ·have HNO := Aside0.mk hno
  have HBX := Aside0.mk (show b = sealL x ++ [] by rw [List.append_nil]; exact hb)
  have HXB := Aside0.mk (show Byt x from fun y hy => HBY.out y (by rw [hb]; unfold sealL; exact List.mem_append_left _ (List.mem_append_right _ hy)))
  have HXL := Aside0.mk (show x.length < 1000000 by
   have := HL.out
   rw [hb] at this
   unfold sealL at this
   simp only [List.length_append] at this
   omega)
  clear hb hno
  go_enter Try.func60, Try.ntmps60
  go_wp2_with (first
   | (go_at_call 94; ((with_reducible refine (rse_made A0 c0 b.length b x [] _ rfl HBX.out (Kd.C_below HR.out HB.out) HC.out HBY.out HL.out).mono ?_); rintro e w1 ⟨v1, A2, c2, rfl, ho, hb⟩; obtain ⟨A1, c1, e_⟩ := Kd.R_slice ho; subst e_; obtain ⟨F1, hs_⟩ := Sep.newrow (by repeat (first | exact HS.out | apply sep_alloc | apply sep_drewN | apply sep_drew)) hb (below_size (by repeat (first | exact HB.out | apply below_alloc | apply pw_below_drewN | apply below_drew1))) ho; have n0_ := Aside0.mk (below_step (by repeat (first | exact HB.out | apply below_alloc | apply pw_below_drewN | apply below_drew1)) hb); clear HB HS hb ho; have HB := n0_; have HS := Aside0.mk hs_; clear n0_ hs_))
   | ((with_reducible refine gate_dst (N := 31) rfl ?_); (try (refine gate_guard (by rfl) ?_; dsimp only)); refine box_event ?hg (N := 31) ?hd (cs := #[.slice A1 x.length c1, .bool false]) (t := 104) ?hr ?_; (case hd => rfl); (case hg => rfl); (case hr => first | (go_simp; done) | (go_simp; rfl)); intro g hg w5 hbox hb; have n0_ := Aside0.mk (below_step (by repeat (first | exact HB.out | apply below_alloc | apply pw_below_drewN | apply below_drew1)) hb); have n1_ := Aside0.mk (Sep.newbox (by repeat (first | exact HS.out | apply sep_alloc | apply sep_drewN | apply sep_drew)) hb (Nat.le_of_eq hg.symm) (below_size (by repeat (first | exact HB.out | apply below_alloc | apply pw_below_drewN | apply below_drew1))) hbox); clear HB HS; have HB := n0_; have HS := n1_; clear n0_ n1_ hb hbox hg)
   | (go_at_call 79; ((with_reducible refine (rnum_no g A1 c1 x HNO.out false w _ HB.out HS.out.own (Kd.R_reads' (rowR HS.out.drop)).2.2 (Kd.R_reads' (rowR HS.out.drop)).2.1 HXB.out HXL.out).mono ?_); rintro e w3 ⟨rfl, ht⟩; obtain ⟨F_, hs_⟩ := Turned.sep ht (HS.out) rfl; have n0_ := Aside0.mk (Turned.below ht); clear HB HS ht; have HB := n0_; have HS := Aside0.mk hs_; clear n0_ hs_)))
  go_loopg [9, 10, 11, 12, 13] 0 (fun kq v9 v10 v11 v12 v13 w' => v9 = .slice none 0 0 ∧ v10 = .int .i64 0 ∧ Aside0 (Sep w.heap.size w' []) ∧ Aside0 (Below w.heap.size w w'))
  case atStart => exact ⟨rfl, rfl, Aside0.mk (Sep.nil _ _), HB⟩
  case round =>
   clear HS HB
   obtain ⟨rfl, rfl, HS, HB⟩ := hrel
   go_wp2_with (first
    | (go_at_call 54; ((with_reducible refine (rbput_m none 0 0 [] [] 1 _ rfl rfl (Kd.C_nil _ _) (Nat.le_refl _) (by decide) none_len).mono ?_); rintro e w4 ⟨v4, rfl, ho, hb⟩; obtain ⟨A4, c4, e_⟩ := Kd.R_slice ho; subst e_; obtain ⟨F4, hs_⟩ := Sep.newrow (by repeat (first | exact HS.out | apply sep_alloc | apply sep_drewN | apply sep_drew)) hb (below_size (by repeat (first | exact HB.out | apply below_alloc | apply pw_below_drewN | apply below_drew1))) ho; have n0_ := Aside0.mk (below_step (by repeat (first | exact HB.out | apply below_alloc | apply pw_below_drewN | apply below_drew1)) hb); clear HB HS hb ho; have HB := n0_; have HS := Aside0.mk hs_; clear n0_ hs_)))
   go_ret2
   exact ⟨_, rfl, Kd.N_nil _ _ _ _ _, HB.out⟩
set_option maxHeartbeats 32000000 in
set_option maxRecDepth 100000 in
theorem rbtake_main (A0 : Option Addr) (c0 : Nat) (b : List Int) (w : World) (hr0 : Kd.C (Kd.int .u8) w A0 b.length b) (hc0 : b.length ≤ c0) (hby : Byt b) (hl : b.length < 1000000)
  (n : Nat) (r0 : List Int) (hn : n < 2 ^ 64) (hb : b = sealL (varint n ++ r0)) (l : List S109) (z : Int) (hlz : btakeR b = (l, z)) :
  Calls Try.prog 60 #[.slice A0 b.length c0] w fun e w' => TakeN l z w e w' := by
 have HB := Aside0.mk (Below.refl w.heap.size w)
 have HS := Aside0.mk (Sep.nil w.heap.size w)
 have HR := Aside0.mk hr0
 have HC := Aside0.mk hc0
 have HBY := Aside0.mk hby
 have HL := Aside0.mk hl
 have HLZ := Aside0.mk hlz
 obtain ⟨x, hx⟩ : ∃ x, x = varint n ++ r0 := ⟨_, rfl⟩
 rw [← hx] at hb
 have HX := Aside0.mk hx
 have HBS := Aside0.mk hb
 have HBX := Aside0.mk (show b = sealL x ++ [] by rw [List.append_nil]; exact hb)
 have HN64 := Aside0.mk (show n < 2 ^ 64 by omega)
 have HN := Aside0.mk (show min n 201 ≤ 201 by omega)
 have HXB := Aside0.mk (show Byt x from fun y hy => HBY.out y (by rw [hb]; unfold sealL; exact List.mem_append_left _ (List.mem_append_right _ hy)))
 have HXL := Aside0.mk (show x.length < 1000000 by
  have := HL.out
  rw [hb] at this
  unfold sealL at this
  simp only [List.length_append] at this
  omega)
 obtain ⟨N, hN⟩ : ∃ N, N = min n 201 := ⟨_, rfl⟩
 have HMN := Aside0.mk hN
 have hmi : (if (201 : Int) < (n : Int) then (201 : Int) else (n : Int)) = (N : Int) := by split <;> omega
 have hmw0 : wrap64 (N : Int) = (N : Int) := wid (by omega)
 clear hN
 clear hb hn hx hlz hl hby hc0 hr0
 go_enter Try.func60, Try.ntmps60
 go_wp2_with (first
  | (go_at_call 94; ((with_reducible refine (rse_made A0 c0 b.length b x [] _ rfl HBX.out (Kd.C_below HR.out HB.out) HC.out HBY.out HL.out).mono ?_); rintro e w1 ⟨v1, A2, c2, rfl, ho, hb⟩; obtain ⟨A1, c1, e_⟩ := Kd.R_slice ho; subst e_; obtain ⟨F1, hs_⟩ := Sep.newrow (by repeat (first | exact HS.out | apply sep_alloc | apply sep_drewN | apply sep_drew)) hb (below_size (by repeat (first | exact HB.out | apply below_alloc | apply pw_below_drewN | apply below_drew1))) ho; have n0_ := Aside0.mk (below_step (by repeat (first | exact HB.out | apply below_alloc | apply pw_below_drewN | apply below_drew1)) hb); clear HB HS hb ho; have HB := n0_; have HS := Aside0.mk hs_; clear n0_ hs_))
  | ((with_reducible refine gate_dst (N := 31) rfl ?_); (try (refine gate_guard (by rfl) ?_; dsimp only)); refine box_event ?hg (N := 31) ?hd (cs := #[.slice A1 x.length c1, .bool false]) (t := 104) ?hr ?_; (case hd => rfl); (case hg => rfl); (case hr => first | (go_simp; done) | (go_simp; rfl)); intro g hg w5 hbox hb; have n0_ := Aside0.mk (below_step (by repeat (first | exact HB.out | apply below_alloc | apply pw_below_drewN | apply below_drew1)) hb); have n1_ := Aside0.mk (Sep.newbox (by repeat (first | exact HS.out | apply sep_alloc | apply sep_drewN | apply sep_drew)) hb (Nat.le_of_eq hg.symm) (below_size (by repeat (first | exact HB.out | apply below_alloc | apply pw_below_drewN | apply below_drew1))) hbox); clear HB HS; have HB := n0_; have HS := n1_; clear n0_ n1_ hb hbox hg)
  | (go_at_call 79; ((with_reducible refine (rnum_yes n r0 HN64.out g A1 c1 x HX.out false w _ HB.out HS.out.own (Kd.R_reads' (rowR HS.out.drop)).2.2 (Kd.R_reads' (rowR HS.out.drop)).2.1 HXB.out HXL.out).mono ?_); rintro e w3 ⟨A4, c4, rfl, hlc, hcd, ht⟩; have HLC := Aside0.mk hlc; have HCD := Aside0.mk hcd; clear hlc hcd; obtain ⟨F_, hs_⟩ := Turned.sep ht (HS.out) rfl; have n0_ := Aside0.mk (Turned.below ht); clear HB HS ht; have HB := n0_; have HS := Aside0.mk hs_; clear n0_ hs_)))
 have n0_ := HS.out
 clear HS
 have HS := Aside0.mk (n0_.nilN k109 109)
 clear n0_
 go_loopg [9, 10, 11, 12, 13] N (fun kq v9 v10 v11 v12 v13 w' => ∃ (i : Nat) (O : List S109) (F : Nat → Prop) (A' : Option Addr) (c' : Nat) (r : List Int), v10 = .int .i64 (i : Int) ∧
  Aside0 (kq + i = N ∧ O.length = i ∧ x = varint n ++ (O.flatMap chB ++ r) ∧ (∀ c ∈ O, EOk c) ∧ r.length ≤ c' ∧ (∀ w2, Kd.C (Kd.int .u8) w2 A1 x.length x → Kd.C (Kd.int .u8) w2 A' r.length r)) ∧
  Aside0 (Sep w.heap.size w' [rowN F k109 109 w.heap.size v9 O, rtR g (.slice A' r.length c') false, row F1 (Kd.int .u8) 5 w.heap.size (.slice A1 x.length c1) x]) ∧ Aside0 (Below w.heap.size w w'))
 case atStart => exact ⟨0, [], _, A4, c4, r0, rfl, ⟨by omega, rfl, by rw [HX.out]; simp, by simp, HLC.out, HCD.out⟩, HS, HB⟩
 case round =>
  clear HS HB HLC HCD
  obtain ⟨i, O, F, A', c', r, rfl, HI, HS, HB⟩ := hrel
  obtain ⟨A9, c9, e9, hl9, _⟩ := Kd.N_reads HS.out.N
  subst e9
  have HL9 := Aside0.mk hl9
  clear hl9
  by_cases hlt : i < N
  ·obtain ⟨k1, rfl⟩ : ∃ q, gk = q + 1 := ⟨gk - 1, by have := HI.out.1; clear hmi hmw0; omega⟩
   have d1b : decide ((i : Int) < (N : Int)) = true := decide_eq_true (by omega)
   have d1n : decide (i < N) = true := decide_eq_true hlt
   have hnx : wrap64 ((i : Int) + 1) = ((i + 1 : Nat) : Int) := by have := HMN.out; clear hmi hmw0; rw [w64 (by omega) (by omega)]; simp
   have HXI := Aside0.mk hnx
   have HKN := Aside0.mk (show O.length < n by have := HI.out.2.1; have := HMN.out; clear hmi hmw0; omega)
   have HRB := Aside0.mk (show Byt r from byt_app (a := O.flatMap chB) (byt_app (a := varint n) (HI.out.2.2.1 ▸ HXB.out)))
   have HRL := Aside0.mk (show r.length < 1000000 by
    have := HXL.out
    rw [HI.out.2.2.1, List.length_append, List.length_append] at this
    omega)
   clear hlt hnx
   by_cases hex : ∃ (m : Nat) (r1 : List Int), m < 2 ^ 64 ∧ r = varint m ++ r1
   ·obtain ⟨m, r1, hm, hr1⟩ := hex
    have HM := Aside0.mk hm
    have HR1 := Aside0.mk hr1
    have HRB1 := Aside0.mk (show Byt r1 from byt_app (a := varint m) (hr1 ▸ HRB.out))
    have HRL1 := Aside0.mk (show r1.length < 1000000 by
     have := HRL.out
     rw [hr1, List.length_append] at this
     omega)
    by_cases hex2 : ∃ (k : Nat) (s : List Int), k < 2 ^ 64 ∧ r1 = varint k ++ s ∧ k ≤ s.length
    ·obtain ⟨k, s, hk, hs, hks⟩ := hex2
     have HK := Aside0.mk hk
     have HS1 := Aside0.mk hs
     have HKS := Aside0.mk hks
     obtain ⟨t, ht⟩ : ∃ t, t = s.take k := ⟨_, rfl⟩
     obtain ⟨u, hu⟩ : ∃ u, u = s.drop k := ⟨_, rfl⟩
     have HT := Aside0.mk ht
     have HU := Aside0.mk hu
     have HTB := Aside0.mk (show Byt t from by rw [ht]; exact fun y hy => byt_app (a := varint k) (hs ▸ HRB1.out) y (List.mem_of_mem_take hy))
     have HTLN := Aside0.mk (show t.length < 1000000 by
      have := HRL1.out
      rw [hs, List.length_append] at this
      rw [ht, List.length_take]
      omega)
     obtain ⟨⟨ps, z1⟩, hps⟩ : ∃ p, p = takeR t := ⟨_, rfl⟩
     have HTK := Aside0.mk hps.symm
     obtain ⟨sT, hsT⟩ : ∃ s, s = strOfNums t := ⟨_, rfl⟩
     have HSTX := Aside0.mk hsT
     have kb := fun W => print_bytes (P := Try.prog) 9 24 5 Try.underlying9 Try.underlying24 Try.underlying5 sT W
     have hz := take_two t
     rw [← hps] at hz
     clear hm hr1 hk hs hks ht hu hps hsT
     rcases hz with hz | ⟨hz, hz2⟩
     ·have hz : z1 = 0 := hz
      subst hz
      by_cases hbig : 4096 ≤ m
      ·have e1b : decide ((m : Int) < 4096) = false := decide_eq_false (by omega)
       have e1n : decide (m < 4096) = false := decide_eq_false (by omega)
       have e2b : decide ((4096 : Int) ≤ (m : Int)) = true := decide_eq_true (by omega)
       have e2n : decide (4096 ≤ m) = true := decide_eq_true (by omega)
       have hl := HLZ.out
       rw [HBS.out, btake_stop HI.out.2.2.1 HI.out.2.2.2.1 HKN.out (HR1.out ▸ next_big hbig)] at hl
       injection hl with h1 h2
       subst h1 h2
       clear hbig
       go_wp2_with (first
        | (go_at_call 79; ((with_reducible refine (rnum_yes m r1 HM.out g A' c' r HR1.out false w _ HB.out (Sep.own HS.out.p2) (HI.out.2.2.2.2.2 _ (Kd.R_reads' (rowR HS.out.drop.drop)).2.2) HI.out.2.2.2.2.1 HRB.out HRL.out).mono ?_); rintro e w4 ⟨A6, c6, rfl, hlc, hcd, ht⟩; have HLC := Aside0.mk hlc; have HCD := Aside0.mk hcd; clear hlc hcd; obtain ⟨F_, hs_⟩ := Turned.sep ht (HS.out.p2) rfl; have n0_ := Aside0.mk (Turned.below ht); clear HB HS ht; have HB := n0_; have HS := Aside0.mk hs_; clear n0_ hs_; have n_ := HS.out.p2; clear HS; have HS := Aside0.mk n_; clear n_))
        | (go_at_call 95; ((with_reducible refine (rtx_yes k s t u HK.out g A6 c6 r1 HS1.out HKS.out HT.out HU.out false w _ HB.out (Sep.own HS.out.p2) (fun w2 h2 => HCD.out w2 (HI.out.2.2.2.2.2 w2 (row_stayR HS.out.drop h2))) HLC.out HRB1.out HRL1.out).mono ?_); rintro e w5 ⟨A7, c7, rfl, hlc, hcd, ht⟩; rw [← HSTX.out]; have HLC7 := Aside0.mk hlc; have HCD7 := Aside0.mk hcd; clear hlc hcd; obtain ⟨F_, hs_⟩ := Turned.sep ht (HS.out.p2) rfl; have n0_ := Aside0.mk (Turned.below ht); clear HB HS ht; have HB := n0_; have HS := Aside0.mk hs_; clear n0_ hs_; have n_ := HS.out.p2; clear HS; have HS := Aside0.mk n_; clear n_))
        | (go_at_call 42; (have ht_ := bytes_C w5 t sT HSTX.out HTB.out HTLN.out); (rw [ht_.1]); (have n0_ := Aside0.mk (bytes_below HB.out HB.out.size 5 sT)); (have n1_ := Aside0.mk (Sep.below HS.out (bytes_below (Below.refl _ _) (Nat.le_refl _) 5 sT))); clear HB HS; (have HB := n0_); (have HS := n1_); clear n0_ n1_; (refine (rtake_own _ _ t _ _ _ ht_.2 (grownCap_ge _ _ _ _) HTB.out HTLN.out HTK.out).mono ?_); (rintro e w7 ⟨A5, c5, rfl, _, hl5, ⟨G5, ho5⟩, hb⟩); (have n1_ := Aside0.mk (Sep.new HS.out hb (ho5.lower HB.out.size) ho5.lo)); (have n0_ := Aside0.mk (below_step HB.out hb)); clear HB HS hb ho5; have HB := n0_; have HS := n1_; clear n0_ n1_ ht_))
       go_ret2
       exact ⟨_, rfl, Kd.N_nil _ _ _ _ _, HB.out⟩
      ·have e1b : decide ((m : Int) < 4096) = true := decide_eq_true (by omega)
       have e1n : decide (m < 4096) = true := decide_eq_true (by omega)
       have e2b : decide ((4096 : Int) ≤ (m : Int)) = false := decide_eq_false (by omega)
       have e2n : decide (4096 ≤ m) = false := decide_eq_false (by omega)
       have hmw : wrap64 (m : Int) = (m : Int) := wid (by omega)
       have HAL := Aside0.mk (show (O.length + 1) * 32 ≤ 140737488355328 by have := HI.out.1; have := HI.out.2.1; have := HMN.out; clear hmi hmw0 hmw; omega)
       have HG := Aside0.mk (next_good (m := m) (k := k) (s := s) (by omega) HKS.out (by rw [← HT.out]; exact HTK.out))
       clear hbig
       go_wp2_with (first
        | (go_at_call 79; ((with_reducible refine (rnum_yes m r1 HM.out g A' c' r HR1.out false w _ HB.out (Sep.own HS.out.p2) (HI.out.2.2.2.2.2 _ (Kd.R_reads' (rowR HS.out.drop.drop)).2.2) HI.out.2.2.2.2.1 HRB.out HRL.out).mono ?_); rintro e w4 ⟨A6, c6, rfl, hlc, hcd, ht⟩; have HLC := Aside0.mk hlc; have HCD := Aside0.mk hcd; clear hlc hcd; obtain ⟨F_, hs_⟩ := Turned.sep ht (HS.out.p2) rfl; have n0_ := Aside0.mk (Turned.below ht); clear HB HS ht; have HB := n0_; have HS := Aside0.mk hs_; clear n0_ hs_; have n_ := HS.out.p2; clear HS; have HS := Aside0.mk n_; clear n_))
        | (go_at_call 95; ((with_reducible refine (rtx_yes k s t u HK.out g A6 c6 r1 HS1.out HKS.out HT.out HU.out false w _ HB.out (Sep.own HS.out.p2) (fun w2 h2 => HCD.out w2 (HI.out.2.2.2.2.2 w2 (row_stayR HS.out.drop h2))) HLC.out HRB1.out HRL1.out).mono ?_); rintro e w5 ⟨A7, c7, rfl, hlc, hcd, ht⟩; rw [← HSTX.out]; have HLC7 := Aside0.mk hlc; have HCD7 := Aside0.mk hcd; clear hlc hcd; obtain ⟨F_, hs_⟩ := Turned.sep ht (HS.out.p2) rfl; have n0_ := Aside0.mk (Turned.below ht); clear HB HS ht; have HB := n0_; have HS := Aside0.mk hs_; clear n0_ hs_; have n_ := HS.out.p2; clear HS; have HS := Aside0.mk n_; clear n_))
        | (go_at_call 42; (have ht_ := bytes_C w5 t sT HSTX.out HTB.out HTLN.out); (rw [ht_.1]); (have n0_ := Aside0.mk (bytes_below HB.out HB.out.size 5 sT)); (have n1_ := Aside0.mk (Sep.below HS.out (bytes_below (Below.refl _ _) (Nat.le_refl _) 5 sT))); clear HB HS; (have HB := n0_); (have HS := n1_); clear n0_ n1_; (refine (rtake_own _ _ t _ _ _ ht_.2 (grownCap_ge _ _ _ _) HTB.out HTLN.out HTK.out).mono ?_); (rintro e w7 ⟨A5, c5, rfl, _, hl5, ⟨G5, ho5⟩, hb⟩); (have n1_ := Aside0.mk (Sep.new HS.out hb (ho5.lower HB.out.size) ho5.lo)); (have n0_ := Aside0.mk (below_step HB.out hb)); clear HB HS hb ho5; have HB := n0_; have HS := n1_; clear n0_ n1_ ht_)
        | ((with_reducible refine gate_builtin (b := .append) (xs := #[.tmp 56, .tmp 61]) rfl ?_); (at_builtin); (have hsp_ := HS.out.p2); (have hfk_ := (pts_FK HS.out.own (m : Int) hl5)); (refine wp_appendN k109 (w0 := w) rfl (.tmp 56) (.tmp 61) 66 109 (.agg #[.int .i64 0, .slice none 0 0]) 32 rfl Try.underlying66 info109 rfl (by decide) (by decide) ((⟨(m : Int), ps⟩ : S109)) [.int .i64 (m : Int), .slice A5 ps.length c5] hsp_ rfl rfl hfk_ HB.out (by exact HAL.out) ?_); (intro v_ w_ F_ hs_ hb_); (obtain ⟨O1, hy_⟩ : ∃ y_, y_ = O ++ [(⟨(m : Int), ps⟩ : S109)] := ⟨_, rfl⟩; rw [← hy_] at hs_; have HO1 := Aside0.mk hy_; clear hy_ HB HS; have HB := Aside0.mk hb_; have HS := Aside0.mk hs_; clear hs_ hb_ hsp_ hfk_); (skip)))
       go_roundg k1
       case measure => omega
       case rel => exact ⟨i + 1, O1, F_, A7, c7, u, (by first | rfl | rw [HXI.out]), ⟨by have := HI.out.1; omega, by rw [HO1.out, List.length_append, HI.out.2.1]; rfl, (by
         rw [HO1.out, List.flatMap_append, List.flatMap_cons, List.flatMap_nil, List.append_nil, List.append_assoc, HU.out, ← HG.out.2, ← HS1.out, ← HR1.out]
         exact HI.out.2.2.1), (by
         rw [HO1.out]
         intro c hc
         rcases List.mem_append.1 hc with hc | hc
         ·exact HI.out.2.2.2.1 c hc
         ·rw [List.mem_singleton.1 hc]; exact HG.out.1), HLC7.out, fun w2 h2 => HCD7.out w2 (HCD.out w2 (HI.out.2.2.2.2.2 w2 h2))⟩, HS, HB⟩
     ·have hz : z1 = 6 := hz
      have hz2 : ps = [] := hz2
      subst hz hz2
      have hl := HLZ.out
      rw [HBS.out, btake_stop HI.out.2.2.1 HI.out.2.2.2.1 HKN.out (by rw [HR1.out, HS1.out]; exact next_bad (by rw [← HT.out, HTK.out]; decide))] at hl
      injection hl with h1 h2
      subst h1 h2
      go_wp2_with (first
       | (go_at_call 79; ((with_reducible refine (rnum_yes m r1 HM.out g A' c' r HR1.out false w _ HB.out (Sep.own HS.out.p2) (HI.out.2.2.2.2.2 _ (Kd.R_reads' (rowR HS.out.drop.drop)).2.2) HI.out.2.2.2.2.1 HRB.out HRL.out).mono ?_); rintro e w4 ⟨A6, c6, rfl, hlc, hcd, ht⟩; have HLC := Aside0.mk hlc; have HCD := Aside0.mk hcd; clear hlc hcd; obtain ⟨F_, hs_⟩ := Turned.sep ht (HS.out.p2) rfl; have n0_ := Aside0.mk (Turned.below ht); clear HB HS ht; have HB := n0_; have HS := Aside0.mk hs_; clear n0_ hs_; have n_ := HS.out.p2; clear HS; have HS := Aside0.mk n_; clear n_))
       | (go_at_call 95; ((with_reducible refine (rtx_yes k s t u HK.out g A6 c6 r1 HS1.out HKS.out HT.out HU.out false w _ HB.out (Sep.own HS.out.p2) (fun w2 h2 => HCD.out w2 (HI.out.2.2.2.2.2 w2 (row_stayR HS.out.drop h2))) HLC.out HRB1.out HRL1.out).mono ?_); rintro e w5 ⟨A7, c7, rfl, hlc, hcd, ht⟩; rw [← HSTX.out]; have HLC7 := Aside0.mk hlc; have HCD7 := Aside0.mk hcd; clear hlc hcd; obtain ⟨F_, hs_⟩ := Turned.sep ht (HS.out.p2) rfl; have n0_ := Aside0.mk (Turned.below ht); clear HB HS ht; have HB := n0_; have HS := Aside0.mk hs_; clear n0_ hs_; have n_ := HS.out.p2; clear HS; have HS := Aside0.mk n_; clear n_))
       | (go_at_call 42; (have ht_ := bytes_C w5 t sT HSTX.out HTB.out HTLN.out); (rw [ht_.1]); (have n0_ := Aside0.mk (bytes_below HB.out HB.out.size 5 sT)); (have n1_ := Aside0.mk (Sep.below HS.out (bytes_below (Below.refl _ _) (Nat.le_refl _) 5 sT))); clear HB HS; (have HB := n0_); (have HS := n1_); clear n0_ n1_; (refine (rtake_own _ _ t _ _ _ ht_.2 (grownCap_ge _ _ _ _) HTB.out HTLN.out HTK.out).mono ?_); (rintro e w7 ⟨A5, c5, rfl, _, hl5, ⟨G5, ho5⟩, hb⟩); (have n1_ := Aside0.mk (Sep.new HS.out hb (ho5.lower HB.out.size) ho5.lo)); (have n0_ := Aside0.mk (below_step HB.out hb)); clear HB HS hb ho5; have HB := n0_; have HS := n1_; clear n0_ n1_ ht_))
      go_ret2
      exact ⟨_, rfl, Kd.N_nil _ _ _ _ _, HB.out⟩
    ·have HNT := Aside0.mk (show ∀ (k : Nat) (s : List Int), k < 2 ^ 64 → r1 = varint k ++ s → s.length < k from fun k s h1 h2 => Nat.lt_of_not_le fun h3 => hex2 ⟨k, s, h1, h2, h3⟩)
     have hl := HLZ.out
     rw [HBS.out, btake_stop HI.out.2.2.1 HI.out.2.2.2.1 HKN.out (by rw [HR1.out]; exact next_text HNT.out)] at hl
     obtain ⟨t, ht⟩ : ∃ t, t = ([] : List Int) := ⟨_, rfl⟩
     have HT := Aside0.mk ht
     have HTB := Aside0.mk (show Byt t from by rw [ht]; exact fun y hy => by cases hy)
     have HTLN := Aside0.mk (show t.length < 1000000 by rw [ht]; decide)
     have HTK := Aside0.mk (show takeR t = ([], 6) by rw [ht]; exact take_none fun n r _ e => varint_ne n r e.symm)
     obtain ⟨sT, hsT⟩ : ∃ s, s = strOfNums t := ⟨_, rfl⟩
     have HSTX := Aside0.mk hsT
     have kb := fun W => print_bytes (P := Try.prog) 9 24 5 Try.underlying9 Try.underlying24 Try.underlying5 sT W
     injection hl with h1 h2
     subst h1 h2
     clear ht hsT
     clear hm hr1 hex2
     go_wp2_with (first
      | (go_at_call 79; ((with_reducible refine (rnum_yes m r1 HM.out g A' c' r HR1.out false w _ HB.out (Sep.own HS.out.p2) (HI.out.2.2.2.2.2 _ (Kd.R_reads' (rowR HS.out.drop.drop)).2.2) HI.out.2.2.2.2.1 HRB.out HRL.out).mono ?_); rintro e w4 ⟨A6, c6, rfl, hlc, hcd, ht⟩; have HLC := Aside0.mk hlc; have HCD := Aside0.mk hcd; clear hlc hcd; obtain ⟨F_, hs_⟩ := Turned.sep ht (HS.out.p2) rfl; have n0_ := Aside0.mk (Turned.below ht); clear HB HS ht; have HB := n0_; have HS := Aside0.mk hs_; clear n0_ hs_; have n_ := HS.out.p2; clear HS; have HS := Aside0.mk n_; clear n_))
      | (go_at_call 95; ((with_reducible refine (rtx_no g A6 c6 r1 HNT.out false w _ HB.out (Sep.own HS.out.p2) (HCD.out _ (HI.out.2.2.2.2.2 _ (Kd.R_reads' (rowR HS.out.drop.drop)).2.2)) HLC.out HRB1.out HRL1.out).mono ?_); rintro e w5 ⟨rfl, ht⟩; rw [← HT.out, ← HSTX.out]; obtain ⟨F_, hs_⟩ := Turned.sep ht (HS.out.p2) rfl; have n0_ := Aside0.mk (Turned.below ht); clear HB HS ht; have HB := n0_; have HS := Aside0.mk hs_; clear n0_ hs_; have n_ := HS.out.p2; clear HS; have HS := Aside0.mk n_; clear n_))
      | (go_at_call 42; (have ht_ := bytes_C w5 t sT HSTX.out HTB.out HTLN.out); (rw [ht_.1]); (have n0_ := Aside0.mk (bytes_below HB.out HB.out.size 5 sT)); (have n1_ := Aside0.mk (Sep.below HS.out (bytes_below (Below.refl _ _) (Nat.le_refl _) 5 sT))); clear HB HS; (have HB := n0_); (have HS := n1_); clear n0_ n1_; (refine (rtake_own _ _ t _ _ _ ht_.2 (grownCap_ge _ _ _ _) HTB.out HTLN.out HTK.out).mono ?_); (rintro e w7 ⟨A5, c5, rfl, _, hl5, ⟨G5, ho5⟩, hb⟩); (have n1_ := Aside0.mk (Sep.new HS.out hb (ho5.lower HB.out.size) ho5.lo)); (have n0_ := Aside0.mk (below_step HB.out hb)); clear HB HS hb ho5; have HB := n0_; have HS := n1_; clear n0_ n1_ ht_))
     go_ret2
     exact ⟨_, rfl, Kd.N_nil _ _ _ _ _, HB.out⟩
   ·have HNO := Aside0.mk (show ∀ m s, m < 2 ^ 64 → r ≠ varint m ++ s from fun m s h1 h2 => hex ⟨m, s, h1, h2⟩)
    have hl := HLZ.out
    rw [HBS.out, btake_stop HI.out.2.2.1 HI.out.2.2.2.1 HKN.out (next_num HNO.out)] at hl
    obtain ⟨t, ht⟩ : ∃ t, t = ([] : List Int) := ⟨_, rfl⟩
    have HT := Aside0.mk ht
    have HTB := Aside0.mk (show Byt t from by rw [ht]; exact fun y hy => by cases hy)
    have HTLN := Aside0.mk (show t.length < 1000000 by rw [ht]; decide)
    have HTK := Aside0.mk (show takeR t = ([], 6) by rw [ht]; exact take_none fun n r _ e => varint_ne n r e.symm)
    obtain ⟨sT, hsT⟩ : ∃ s, s = strOfNums t := ⟨_, rfl⟩
    have HSTX := Aside0.mk hsT
    have kb := fun W => print_bytes (P := Try.prog) 9 24 5 Try.underlying9 Try.underlying24 Try.underlying5 sT W
    injection hl with h1 h2
    subst h1 h2
    clear ht hsT
    clear hex
    go_wp2_with (first
     | (go_at_call 79; ((with_reducible refine (rnum_no g A' c' r HNO.out false w _ HB.out (Sep.own HS.out.p2) (HI.out.2.2.2.2.2 _ (Kd.R_reads' (rowR HS.out.drop.drop)).2.2) HI.out.2.2.2.2.1 HRB.out HRL.out).mono ?_); rintro e w4 ⟨rfl, ht⟩; obtain ⟨F_, hs_⟩ := Turned.sep ht (HS.out.p2) rfl; have n0_ := Aside0.mk (Turned.below ht); clear HB HS ht; have HB := n0_; have HS := Aside0.mk hs_; clear n0_ hs_; have n_ := HS.out.p2; clear HS; have HS := Aside0.mk n_; clear n_))
     | (go_at_call 95; ((with_reducible refine (rtx_no g none 0 [] (fun m r _ e => absurd e.symm (varint_ne m r)) true w _ HB.out (Sep.own HS.out.p2) (Kd.C_nil _ _) (Nat.le_refl _) byt_nil (by decide)).mono ?_); rintro e w5 ⟨rfl, ht⟩; rw [← HT.out, ← HSTX.out]; obtain ⟨F_, hs_⟩ := Turned.sep ht (HS.out.p2) rfl; have n0_ := Aside0.mk (Turned.below ht); clear HB HS ht; have HB := n0_; have HS := Aside0.mk hs_; clear n0_ hs_; have n_ := HS.out.p2; clear HS; have HS := Aside0.mk n_; clear n_))
     | (go_at_call 42; (have ht_ := bytes_C w5 t sT HSTX.out HTB.out HTLN.out); (rw [ht_.1]); (have n0_ := Aside0.mk (bytes_below HB.out HB.out.size 5 sT)); (have n1_ := Aside0.mk (Sep.below HS.out (bytes_below (Below.refl _ _) (Nat.le_refl _) 5 sT))); clear HB HS; (have HB := n0_); (have HS := n1_); clear n0_ n1_; (refine (rtake_own _ _ t _ _ _ ht_.2 (grownCap_ge _ _ _ _) HTB.out HTLN.out HTK.out).mono ?_); (rintro e w7 ⟨A5, c5, rfl, _, hl5, ⟨G5, ho5⟩, hb⟩); (have n1_ := Aside0.mk (Sep.new HS.out hb (ho5.lower HB.out.size) ho5.lo)); (have n0_ := Aside0.mk (below_step HB.out hb)); clear HB HS hb ho5; have HB := n0_; have HS := n1_; clear n0_ n1_ ht_))
    go_ret2
    exact ⟨_, rfl, Kd.N_nil _ _ _ _ _, HB.out⟩
  ·have d1b : decide ((i : Int) < (N : Int)) = false := decide_eq_false (by omega)
   have d1n : decide (i < N) = false := decide_eq_false hlt
   have hON : O.length = N := by have := HI.out.1; have := HI.out.2.1; clear hmi hmw0; omega
   have HON := Aside0.mk hON
   have HOL := Aside0.mk (show O.length < 1000000000 by have := HMN.out; clear hmi hmw0; omega)
   clear hlt hON
   cases hrt : rightC O
   ·have HO9 := Aside0.mk (show bputR O = ([], 1) by unfold bputR; rw [hrt]; rfl)
    have hl := HLZ.out
    have hno : btakeR (sealL x) = ([], 90) := by
     by_cases h2 : n ≤ 200
     ·have h3 : O.length = n := by have := HMN.out; have := HON.out; clear hmi hmw0; omega
      rw [btake_end HI.out.2.2.1 HI.out.2.2.2.1 h3, if_neg (by rintro ⟨_, h⟩; rw [hrt] at h; exact absurd h (by decide))]
     ·rw [HX.out]
      exact btake_body fun l _ hr => body_many (by omega) l hr
    rw [HBS.out, hno] at hl
    injection hl with h1 h2
    subst h1 h2
    clear hrt hno
    go_wp2_with (first
     | (go_at_call 54; ((with_reducible refine (rbput_m A9 c9 O.length O [] 1 _ rfl HO9.out (Kd.N_reads' HS.out.N).2.2 HL9.out HOL.out (fun c hc => eok_len (HI.out.2.2.2.1 c hc))).mono ?_); rintro e w4 ⟨v4, rfl, ho, hb⟩; obtain ⟨A8, c8, e_⟩ := Kd.R_slice ho; subst e_; obtain ⟨F8, hs_⟩ := Sep.newrow (by repeat (first | exact HS.out | apply sep_alloc | apply sep_drewN | apply sep_drew)) hb (below_size (by repeat (first | exact HB.out | apply below_alloc | apply pw_below_drewN | apply below_drew1))) ho; have n0_ := Aside0.mk (below_step (by repeat (first | exact HB.out | apply below_alloc | apply pw_below_drewN | apply below_drew1)) hb); clear HB HS hb ho; have HB := n0_; have HS := Aside0.mk hs_; clear n0_ hs_)))
    go_ret2
    exact ⟨_, rfl, Kd.N_nil _ _ _ _ _, HB.out⟩
   ·have h3 : O.length = n := by have := (rightC_all hrt).2.2; have := HMN.out; have := HON.out; clear hmi hmw0; omega
    obtain ⟨B, hB⟩ : ∃ B, B = sealL (bodyC O) := ⟨_, rfl⟩
    have HO9 := Aside0.mk (show bputR O = (B, 0) by rw [hB]; exact bput_of hrt)
    have hl := HLZ.out
    rw [HBS.out, btake_end HI.out.2.2.1 HI.out.2.2.2.1 h3] at hl
    have hVU := str_inj (xs := B) (ys := b) (by rw [hB]; exact sealB_byt (bodyC_byt O)) HBY.out
    obtain ⟨sV, hsV⟩ : ∃ s, s = strOfNums B := ⟨_, rfl⟩
    obtain ⟨sU, hsU⟩ : ∃ s, s = strOfNums b := ⟨_, rfl⟩
    rw [← hsV, ← hsU] at hVU
    have HSV := Aside0.mk hsV
    have HSU := Aside0.mk hsU
    by_cases heq : sV = sU
    ·have c8 := bytes_eq heq
     have he := hVU.1 heq
     have hrr : r = [] := by
      rw [hB, HBS.out] at he
      have h5 := (seal_inj (x := bodyC O) (y := x) (r := []) (s := []) (by rw [he])).1
      rw [HI.out.2.2.1] at h5
      unfold bodyC at h5
      have h6 := (varint_inj _ _ _ _ h5).2
      have h7 := congrArg List.length h6
      rw [List.length_append] at h7
      exact List.eq_nil_of_length_eq_zero (by omega)
     rw [if_pos ⟨hrr, hrt⟩] at hl
     injection hl with h1 h2
     subst h1 h2
     clear he hrr hB
     clear hrt h3 hVU heq hsV hsU
     go_wp2_with (first
      | (go_at_call 54; ((with_reducible refine (rbput_m A9 c9 O.length O B 0 _ rfl HO9.out (Kd.N_reads' HS.out.N).2.2 HL9.out HOL.out (fun c hc => eok_len (HI.out.2.2.2.1 c hc))).mono ?_); rintro e w4 ⟨v4, rfl, ho, hb⟩; obtain ⟨A8, c8_, e_⟩ := Kd.R_slice ho; subst e_; obtain ⟨F8, hs_⟩ := Sep.newrow (by repeat (first | exact HS.out | apply sep_alloc | apply sep_drewN | apply sep_drew)) hb (below_size (by repeat (first | exact HB.out | apply below_alloc | apply pw_below_drewN | apply below_drew1))) ho; have n0_ := Aside0.mk (below_step (by repeat (first | exact HB.out | apply below_alloc | apply pw_below_drewN | apply below_drew1)) hb); clear HB HS hb ho; have HB := n0_; have HS := Aside0.mk hs_; clear n0_ hs_; have hcv1 := own_string (P := Try.prog) Try.underlying24 Try.underlying5 Try.underlying9 (Kd.own_of_R (Sep.R HS.out)); rw [← HSV.out] at hcv1; have hcv2 := Kd.C_string (P := Try.prog) (c := c0) Try.underlying24 Try.underlying5 Try.underlying9 (Kd.C_below HR.out HB.out); rw [← HSU.out] at hcv2)))
     go_ret2
     exact ⟨_, rfl, Kd.N_mono HS.out.drop.N (fun k hk => HS.out.drop.own.lo k hk), HB.out⟩
    ·have c8 := bytes_ne heq
     rw [if_neg (by
      rintro ⟨hrr, _⟩
      apply heq
      apply hVU.2
      rw [hB, HBS.out, HI.out.2.2.1, hrr, List.append_nil, ← h3]
      rfl)] at hl
     injection hl with h1 h2
     subst h1 h2
     clear hB
     clear hrt h3 hVU heq hsV hsU
     go_wp2_with (first
      | (go_at_call 54; ((with_reducible refine (rbput_m A9 c9 O.length O B 0 _ rfl HO9.out (Kd.N_reads' HS.out.N).2.2 HL9.out HOL.out (fun c hc => eok_len (HI.out.2.2.2.1 c hc))).mono ?_); rintro e w4 ⟨v4, rfl, ho, hb⟩; obtain ⟨A8, c8_, e_⟩ := Kd.R_slice ho; subst e_; obtain ⟨F8, hs_⟩ := Sep.newrow (by repeat (first | exact HS.out | apply sep_alloc | apply sep_drewN | apply sep_drew)) hb (below_size (by repeat (first | exact HB.out | apply below_alloc | apply pw_below_drewN | apply below_drew1))) ho; have n0_ := Aside0.mk (below_step (by repeat (first | exact HB.out | apply below_alloc | apply pw_below_drewN | apply below_drew1)) hb); clear HB HS hb ho; have HB := n0_; have HS := Aside0.mk hs_; clear n0_ hs_; have hcv1 := own_string (P := Try.prog) Try.underlying24 Try.underlying5 Try.underlying9 (Kd.own_of_R (Sep.R HS.out)); rw [← HSV.out] at hcv1; have hcv2 := Kd.C_string (P := Try.prog) (c := c0) Try.underlying24 Try.underlying5 Try.underlying9 (Kd.C_below HR.out HB.out); rw [← HSU.out] at hcv2)))
     go_ret2
     exact ⟨_, rfl, Kd.N_nil _ _ _ _ _, HB.out⟩
theorem rbtake_calls (A0 : Option Addr) (c0 : Nat) (b : List Int) (w : World) (hr0 : Kd.C (Kd.int .u8) w A0 b.length b) (hc0 : b.length ≤ c0) (hby : Byt b) (hl : b.length < 1000000) (l : List S109) (z : Int) (hlz : btakeR b = (l, z)) :
  Calls Try.prog 60 #[.slice A0 b.length c0] w fun e w' => TakeN l z w e w' := by
 have bad : ∀ h : btakeR b = ([], 90), l = [] ∧ z = 90 := fun h => by
  rw [hlz] at h
  injection h with h1 h2
  exact ⟨h1, h2⟩
 by_cases h1 : ∃ x r, b = sealL x ++ r
 ·obtain ⟨x, r, hb⟩ := h1
  by_cases hr : r = []
  ·subst hr
   rw [List.append_nil] at hb
   by_cases h2 : ∃ n r0, n < 2 ^ 64 ∧ x = varint n ++ r0
   ·obtain ⟨n, r0, hn, hx⟩ := h2
    exact rbtake_main A0 c0 b w hr0 hc0 hby hl n r0 hn (by rw [hb, hx]) l z hlz
   ·have h3 : ∀ m r, m < 2 ^ 64 → x ≠ varint m ++ r := fun m r hm he => h2 ⟨m, r, hm, he⟩
    obtain ⟨rfl, rfl⟩ := bad (by rw [hb]; exact btake_body fun l _ hr => body_none h3 l hr)
    exact rbtake_bad A0 c0 b w hr0 hc0 hby hl (.inr (.inr ⟨x, hb, h3⟩))
  ·obtain ⟨rfl, rfl⟩ := bad (by rw [hb]; exact btake_over hr)
   exact rbtake_bad A0 c0 b w hr0 hc0 hby hl (.inr (.inl ⟨x, r, hb, hr⟩))
 ·have h2 : ∀ x r, b ≠ sealL x ++ r := fun x r he => h1 ⟨x, r, he⟩
  obtain ⟨rfl, rfl⟩ := bad (btake_open h2)
  exact rbtake_bad A0 c0 b w hr0 hc0 hby hl (.inl h2)
end Go.Proofs.Ythkpnnbjcendcaa.Sc
namespace Go.Proofs.Ythkpnnbjcendcaa.X
open Classical in
noncomputable def block_Take.f (l0 : List Int) : Option (List S109 × Int) := if l0.length < 1000000 ∧ Byt l0 then some (btakeR l0) else none
theorem block_Take.calls (A0 : Option Addr) (c0 : Nat) (l0 : List Int) (r1 : List (S109)) (r2 : Int) (w : World) (hr0 : Kd.C (Kd.int .u8) w A0 l0.length l0) (hc0 : l0.length ≤ c0) (h : block_Take.f l0 = some (r1, r2)) :
  Calls Try.prog 59 #[.slice A0 l0.length c0] w fun e w' => ∃ v0_ : Value, e = .returned (.tuple #[v0_, .int .i64 r2]) ∧ Kd.N k109 109 w' w.heap.size (fun k => w.heap.size ≤ k) v0_ r1 ∧ Below w.heap.size w w' := by
 unfold block_Take.f at h
 split at h
 case isFalse => cases h
 case isTrue hfit => exact Sc.btake_calls A0 c0 l0 w hr0 hc0 hfit.2 hfit.1 r1 r2 (Option.some.inj h)
open Classical in
noncomputable def marigraphref09_Take.f (l0 : List Int) : Option (List S109 × Int) := if l0.length < 1000000 ∧ Byt l0 then some (btakeR l0) else none
theorem marigraphref09_Take.calls (A0 : Option Addr) (c0 : Nat) (l0 : List Int) (r1 : List (S109)) (r2 : Int) (w : World) (hr0 : Kd.C (Kd.int .u8) w A0 l0.length l0) (hc0 : l0.length ≤ c0) (h : marigraphref09_Take.f l0 = some (r1, r2)) :
  Calls Try.prog 60 #[.slice A0 l0.length c0] w fun e w' => ∃ v0_ : Value, e = .returned (.tuple #[v0_, .int .i64 r2]) ∧ Kd.N k109 109 w' w.heap.size (fun k => w.heap.size ≤ k) v0_ r1 ∧ Below w.heap.size w w' := by
 unfold marigraphref09_Take.f at h
 split at h
 case isFalse => cases h
 case isTrue hfit => exact Sc.rbtake_calls A0 c0 l0 w hr0 hc0 hfit.2 hfit.1 r1 r2 (Option.some.inj h)
end Go.Proofs.Ythkpnnbjcendcaa.X
end
section
namespace Go.Proofs.Ythkpnnbjcendcaa.X
open Go.RowKit Go.Proofs.YthkpnnbjcendcaaW.PrintWords Go.Proofs.YthkpnnbjcendcaaW.PrintLast Go.Proofs.YthkpnnbjcendcaaW.PrintMore
attribute [local go_sem] max2_int min2_int max_two min_two max_three min_three max_four min_four
noncomputable def marigraphlaw09_BlockTakes.f (k : Nat) (l0 : List Int) : Option (Bool) := if 0 ≤ (mn (l0.length : Int) 3000) then (if (mn (l0.length : Int) 3000) ≤ (l0.length : Int) then ((block_Take.f (l0.take ((mn (l0.length : Int) 3000) : Int).toNat)).bind fun bt409 => ((marigraphref09_Take.f (l0.take ((mn (l0.length : Int) 3000) : Int).toNat)).bind fun bt413 => ((marigraphlaw09_shown.f k).bind fun t417 => (if t417 = true then ((marigraphref09_Same.f k bt409.1 bt413.1).bind fun t418 => (if t418 = true then (some (bt409.2 == bt413.2)) else (some false))) else (some false))))) else (none)) else (none)
set_option maxHeartbeats 8000000 in
set_option maxRecDepth 100000 in
theorem marigraphlaw09_BlockTakes.calls (k : Nat) (A0 : Option Addr) (c0 : Nat) (l0 : List Int) (r : Bool) (w : World) (hr0 : Kd.C (Kd.int .u8) w A0 l0.length l0) (hc0 : l0.length ≤ c0) (h : marigraphlaw09_BlockTakes.f k l0 = some r) :
  Calls Try.prog 17 #[.slice A0 l0.length c0] w fun e w' => e = .returned (.bool r) ∧ Below w.heap.size w w' := by
 have HR0 := Aside0.mk hr0
 have HC0 := Aside0.mk hc0
 clear hr0 hc0
 have HB := Aside0.mk (Below.refl w.heap.size w)
 have H : (if 0 ≤ (mn (l0.length : Int) 3000) then (if (mn (l0.length : Int) 3000) ≤ (l0.length : Int) then ((block_Take.f (l0.take ((mn (l0.length : Int) 3000) : Int).toNat)).bind fun bt409 => ((marigraphref09_Take.f (l0.take ((mn (l0.length : Int) 3000) : Int).toNat)).bind fun bt413 => ((marigraphlaw09_shown.f k).bind fun t417 => (if t417 = true then ((marigraphref09_Same.f k bt409.1 bt413.1).bind fun t418 => (if t418 = true then (some (bt409.2 == bt413.2)) else (some false))) else (some false))))) else (none)) else (none)) = some r := h
 clear h
 obtain ⟨ji2, hji2⟩ : ∃ j_ : Int, (mn (l0.length : Int) 3000) = j_ := ⟨_, rfl⟩
 replace H : (if 0 ≤ (ji2) then (if (ji2) ≤ (l0.length : Int) then ((block_Take.f (l0.take ((ji2) : Int).toNat)).bind fun bt409 => ((marigraphref09_Take.f (l0.take ((ji2) : Int).toNat)).bind fun bt413 => ((marigraphlaw09_shown.f k).bind fun t417 => (if t417 = true then ((marigraphref09_Same.f k bt409.1 bt413.1).bind fun t418 => (if t418 = true then (some (bt409.2 == bt413.2)) else (some false))) else (some false))))) else (none)) else (none)) = some r := by first | (rw [hji2] at H; exact H) | (simp only [hji2] at H ⊢; exact H)
 (try (have hji2h : ji2 ≤ 3000 := by (rw [← hji2]; unfold mn; (repeat' split) <;> omega)))
 (try (have hji2g : ji2 ≤ 64 := by omega))
 (try (have hji2l : 0 ≤ ji2 := by (rw [← hji2]; unfold mn; (repeat' split) <;> omega)))
 (try (have hji2m : 0 ≤ ji2 := by omega))
 have hji2_ : (if 3000 < (l0.length : Int) then 3000 else (l0.length : Int)) = ji2 := hji2
 by_cases c3 : 0 ≤ (ji2)
 ·rw [if_pos c3] at H
  have c3b0 := eq_true c3
  have c3b1 : decide (0 ≤ (ji2)) = true := decide_eq_true c3
  clear c3
  by_cases c4 : (ji2) ≤ (l0.length : Int)
  ·rw [if_pos c4] at H
   have c4b0 := eq_true c4
   have c4b1 : decide ((ji2) ≤ (l0.length : Int)) = true := decide_eq_true c4
   clear c4
   replace H := Option.bind_eq_some_iff.mp H
   obtain ⟨⟨t409, t410⟩, A50, H⟩ := H
   replace H : ((marigraphref09_Take.f (l0.take ((ji2) : Int).toNat)).bind fun bt413 => ((marigraphlaw09_shown.f k).bind fun t417 => (if t417 = true then ((marigraphref09_Same.f k t409 bt413.1).bind fun t418 => (if t418 = true then (some (t410 == bt413.2)) else (some false))) else (some false)))) = some r := H
   have A5 := Aside0.mk A50
   clear A50
   replace H := Option.bind_eq_some_iff.mp H
   obtain ⟨⟨t413, t414⟩, A60, H⟩ := H
   replace H : ((marigraphlaw09_shown.f k).bind fun t417 => (if t417 = true then ((marigraphref09_Same.f k t409 t413).bind fun t418 => (if t418 = true then (some (t410 == t414)) else (some false))) else (some false))) = some r := H
   have A6 := Aside0.mk A60
   clear A60
   replace H := Option.bind_eq_some_iff.mp H
   obtain ⟨t417, A70, H⟩ := H
   replace H : (if t417 = true then ((marigraphref09_Same.f k t409 t413).bind fun t418 => (if t418 = true then (some (t410 == t414)) else (some false))) else (some false)) = some r := H
   have A7 := Aside0.mk A70
   clear A70
   by_cases c8 : t417 = true
   ·subst c8
    have H1 : ((marigraphref09_Same.f k t409 t413).bind fun t418 => (if t418 = true then (some (t410 == t414)) else (some false))) = some r := by rw [if_pos rfl] at H; exact H
    clear H
    have H := H1
    clear H1
    replace H := Option.bind_eq_some_iff.mp H
    obtain ⟨t418, A90, H⟩ := H
    replace H : (if t418 = true then (some (t410 == t414)) else (some false)) = some r := H
    have A9 := Aside0.mk A90
    clear A90
    by_cases c10 : t418 = true
    ·subst c10
     have H1 : (some (t410 == t414)) = some r := by rw [if_pos rfl] at H; exact H
     clear H
     have H := H1
     clear H1
     obtain rfl := Option.some.inj H
     obtain ⟨i011, hi011, _, hsz11, _⟩ := info_parts info5
     obtain ⟨hcut11, hA11, hC11⟩ := print_take_of (P := Try.prog) (Value.int .u8) 0 24 5 .i64 Try.underlying24 hi011 hsz11 A0 c0 l0 (ji2) (of_decide_eq_true (by first | (with_reducible assumption) | assumption)) (of_decide_eq_true (by first | (with_reducible assumption) | assumption)) HC0.out
     have HR408 := Aside0.mk (Kd.C_of_reads (h1 := fun _ => rfl) (hA11 _ (Kd.reads_of_C HR0.out)))
     have HC408 := Aside0.mk hC11
     clear hA11 hC11 hi011 hsz11
     go_enter Try.func17, Try.ntmps17
     go_wp2_with (first | ((with_reducible refine gate_callee (f := 59) rfl ?_); refine goesL_ (some 15) rfl rfl Try.func59 (by kernel_rfl) rfl #[.slice A0 (l0.take ((ji2) : Int).toNat).length c0] rfl (by (try simp only [List.map_toArray, List.map_cons, List.map_nil]); first | done | (rw [show (l0.take ((ji2) : Int).toNat).length = (ji2).toNat from (by rw [List.length_take]; have h_ : ((ji2) : Int) ≤ (l0.length : Int) := of_decide_eq_true (by first | (with_reducible assumption) | assumption); omega)] <;> rfl) | (simp only [hji2]; rfl) | rfl | (simp only [List.length_drop, List.length_take]; rfl)) ?_; (with_reducible refine (block_Take.calls _ _ (l0.take ((ji2) : Int).toNat) t409 t410 _ ?side1 ?side2 A5.out).mono ?_); (case side1 => repeat (first | exact HR408.out | (with_reducible refine Kd.C_alloc ?_ _) | (with_reducible refine Kd.C_drewN ?_ _) | (with_reducible refine Kd.C_drew ?_))); (case side2 => exact HC408.out); rintro e w12 ⟨v411, rfl, ho0, hb⟩; refine ⟨_, rfl, ?_⟩; have n0_ := Aside0.mk (Kd.N_lower ho0 (below_size (by repeat (first | exact HB.out | apply below_alloc | apply pw_below_drewN | apply below_drew1)))); have n1_ := Aside0.mk (below_step (by repeat (first | exact HB.out | apply below_alloc | apply pw_below_drewN | apply below_drew1)) hb); clear HB; have HO412 := n0_; have HB := n1_; clear n0_ n1_; (try clear hb); (try clear hb2); (try clear hk); (try clear hi); (try clear ho0)) | ((with_reducible refine gate_callee (f := 60) rfl ?_); refine goesL_ (some 20) rfl rfl Try.func60 (by kernel_rfl) rfl #[.slice A0 (l0.take ((ji2) : Int).toNat).length c0] rfl (by (try simp only [List.map_toArray, List.map_cons, List.map_nil]); first | done | (rw [show (l0.take ((ji2) : Int).toNat).length = (ji2).toNat from (by rw [List.length_take]; have h_ : ((ji2) : Int) ≤ (l0.length : Int) := of_decide_eq_true (by first | (with_reducible assumption) | assumption); omega)] <;> rfl) | (simp only [hji2]; rfl) | rfl | (simp only [List.length_drop, List.length_take]; rfl)) ?_; (with_reducible refine (marigraphref09_Take.calls _ _ (l0.take ((ji2) : Int).toNat) t413 t414 _ ?side1 ?side2 A6.out).mono ?_); (case side1 => repeat (first | exact (Kd.C_below HR408.out HB.out) | (with_reducible refine Kd.C_alloc ?_ _) | (with_reducible refine Kd.C_drewN ?_ _) | (with_reducible refine Kd.C_drew ?_))); (case side2 => exact HC408.out); rintro e w13 ⟨v415, rfl, ho0, hb⟩; refine ⟨_, rfl, ?_⟩; have n0_ := Aside0.mk (Kd.N_below (by (with_reducible repeat (first | apply Kd.N_alloc | apply Kd.N_drewN | apply Kd.N_drew)); exact HO412.out) hb); have n1_ := Aside0.mk (Kd.N_lower (ho0) (below_size (by repeat (first | exact HB.out | apply below_alloc | apply pw_below_drewN | apply below_drew1)))); have n2_ := Aside0.mk (below_step (by repeat (first | exact HB.out | apply below_alloc | apply pw_below_drewN | apply below_drew1)) hb); clear HO412; clear HB; have HO412 := n0_; have HO416 := n1_; have HB := n2_; clear n0_ n1_ n2_; (try clear hb); (try clear hb2); (try clear hk); (try clear hi); (try clear ho0)) | ((with_reducible refine gate_callee (f := 47) rfl ?_); refine goesL_ (some 23) rfl rfl Try.func47 (by kernel_rfl) rfl #[] rfl (by (try simp only [List.map_toArray, List.map_cons, List.map_nil]); first | done | rfl | (simp only [List.length_drop, List.length_take]; rfl)) ?_; (with_reducible refine (marigraphlaw09_shown.calls k  true _ A7.out).mono ?_); rintro e w14 ⟨rfl, hb⟩; refine ⟨_, rfl, ?_⟩; have n0_ := Aside0.mk (Kd.N_below (by (with_reducible repeat (first | apply Kd.N_alloc | apply Kd.N_drewN | apply Kd.N_drew)); exact HO412.out) hb); have n1_ := Aside0.mk (Kd.N_below (by (with_reducible repeat (first | apply Kd.N_alloc | apply Kd.N_drewN | apply Kd.N_drew)); exact HO416.out) hb); have n2_ := Aside0.mk (below_step (by repeat (first | exact HB.out | apply below_alloc | apply pw_below_drewN | apply below_drew1)) hb); clear HO412; clear HO416; clear HB; have HO412 := n0_; have HO416 := n1_; have HB := n2_; clear n0_ n1_ n2_; (try clear hb); (try clear hb2); (try clear hk); (try clear hi); obtain ⟨Ao15, co15, eo15⟩ := Kd.N_slice HO412.out; subst eo15; obtain ⟨Ao16, co16, eo16⟩ := Kd.N_slice HO416.out; subst eo16) | (go_at_call 50; (with_reducible refine (marigraphref09_Same.calls k _ _ t409 _ _ t413 true _ ?side1 ?side2 ?side3 ?side4 A9.out).mono ?_); (case side1 => repeat (first | exact (Kd.N_reads' HO412.out).2.2 | (with_reducible refine Kd.C_alloc ?_ _) | (with_reducible refine Kd.C_drewN ?_ _) | (with_reducible refine Kd.C_drew ?_))); (case side2 => exact (Kd.N_reads' HO412.out).2.1); (case side3 => repeat (first | exact (Kd.N_reads' HO416.out).2.2 | (with_reducible refine Kd.C_alloc ?_ _) | (with_reducible refine Kd.C_drewN ?_ _) | (with_reducible refine Kd.C_drew ?_))); (case side4 => exact (Kd.N_reads' HO416.out).2.1); rintro e w' ⟨rfl, ⟨nd, rfl⟩⟩))
     go_ret
     exact ⟨by first | rfl | (simp [errW_none, errW_some] <;> rfl) | (simp only [← hji2]; first | rfl | (simp [errW_none, errW_some] <;> rfl)) | (simp [*, errW_none, errW_some] <;> rfl), by repeat (first | exact HB.out | apply below_alloc | apply pw_below_drewN | apply below_drew1)⟩
    ·replace c10 := Bool.eq_false_iff.mpr c10
     subst c10
     have H1 : (some false) = some r := by rw [if_neg (show ¬ (false = true) by decide)] at H; exact H
     clear H
     have H := H1
     clear H1
     obtain rfl := Option.some.inj H
     obtain ⟨i017, hi017, _, hsz17, _⟩ := info_parts info5
     obtain ⟨hcut17, hA17, hC17⟩ := print_take_of (P := Try.prog) (Value.int .u8) 0 24 5 .i64 Try.underlying24 hi017 hsz17 A0 c0 l0 (ji2) (of_decide_eq_true (by first | (with_reducible assumption) | assumption)) (of_decide_eq_true (by first | (with_reducible assumption) | assumption)) HC0.out
     have HR408 := Aside0.mk (Kd.C_of_reads (h1 := fun _ => rfl) (hA17 _ (Kd.reads_of_C HR0.out)))
     have HC408 := Aside0.mk hC17
     clear hA17 hC17 hi017 hsz17
     go_enter Try.func17, Try.ntmps17
     go_wp2_with (first | ((with_reducible refine gate_callee (f := 59) rfl ?_); refine goesL_ (some 15) rfl rfl Try.func59 (by kernel_rfl) rfl #[.slice A0 (l0.take ((ji2) : Int).toNat).length c0] rfl (by (try simp only [List.map_toArray, List.map_cons, List.map_nil]); first | done | (rw [show (l0.take ((ji2) : Int).toNat).length = (ji2).toNat from (by rw [List.length_take]; have h_ : ((ji2) : Int) ≤ (l0.length : Int) := of_decide_eq_true (by first | (with_reducible assumption) | assumption); omega)] <;> rfl) | (simp only [hji2]; rfl) | rfl | (simp only [List.length_drop, List.length_take]; rfl)) ?_; (with_reducible refine (block_Take.calls _ _ (l0.take ((ji2) : Int).toNat) t409 t410 _ ?side1 ?side2 A5.out).mono ?_); (case side1 => repeat (first | exact HR408.out | (with_reducible refine Kd.C_alloc ?_ _) | (with_reducible refine Kd.C_drewN ?_ _) | (with_reducible refine Kd.C_drew ?_))); (case side2 => exact HC408.out); rintro e w18 ⟨v411, rfl, ho0, hb⟩; refine ⟨_, rfl, ?_⟩; have n0_ := Aside0.mk (Kd.N_lower ho0 (below_size (by repeat (first | exact HB.out | apply below_alloc | apply pw_below_drewN | apply below_drew1)))); have n1_ := Aside0.mk (below_step (by repeat (first | exact HB.out | apply below_alloc | apply pw_below_drewN | apply below_drew1)) hb); clear HB; have HO412 := n0_; have HB := n1_; clear n0_ n1_; (try clear hb); (try clear hb2); (try clear hk); (try clear hi); (try clear ho0)) | ((with_reducible refine gate_callee (f := 60) rfl ?_); refine goesL_ (some 20) rfl rfl Try.func60 (by kernel_rfl) rfl #[.slice A0 (l0.take ((ji2) : Int).toNat).length c0] rfl (by (try simp only [List.map_toArray, List.map_cons, List.map_nil]); first | done | (rw [show (l0.take ((ji2) : Int).toNat).length = (ji2).toNat from (by rw [List.length_take]; have h_ : ((ji2) : Int) ≤ (l0.length : Int) := of_decide_eq_true (by first | (with_reducible assumption) | assumption); omega)] <;> rfl) | (simp only [hji2]; rfl) | rfl | (simp only [List.length_drop, List.length_take]; rfl)) ?_; (with_reducible refine (marigraphref09_Take.calls _ _ (l0.take ((ji2) : Int).toNat) t413 t414 _ ?side1 ?side2 A6.out).mono ?_); (case side1 => repeat (first | exact (Kd.C_below HR408.out HB.out) | (with_reducible refine Kd.C_alloc ?_ _) | (with_reducible refine Kd.C_drewN ?_ _) | (with_reducible refine Kd.C_drew ?_))); (case side2 => exact HC408.out); rintro e w19 ⟨v415, rfl, ho0, hb⟩; refine ⟨_, rfl, ?_⟩; have n0_ := Aside0.mk (Kd.N_below (by (with_reducible repeat (first | apply Kd.N_alloc | apply Kd.N_drewN | apply Kd.N_drew)); exact HO412.out) hb); have n1_ := Aside0.mk (Kd.N_lower (ho0) (below_size (by repeat (first | exact HB.out | apply below_alloc | apply pw_below_drewN | apply below_drew1)))); have n2_ := Aside0.mk (below_step (by repeat (first | exact HB.out | apply below_alloc | apply pw_below_drewN | apply below_drew1)) hb); clear HO412; clear HB; have HO412 := n0_; have HO416 := n1_; have HB := n2_; clear n0_ n1_ n2_; (try clear hb); (try clear hb2); (try clear hk); (try clear hi); (try clear ho0)) | ((with_reducible refine gate_callee (f := 47) rfl ?_); refine goesL_ (some 23) rfl rfl Try.func47 (by kernel_rfl) rfl #[] rfl (by (try simp only [List.map_toArray, List.map_cons, List.map_nil]); first | done | rfl | (simp only [List.length_drop, List.length_take]; rfl)) ?_; (with_reducible refine (marigraphlaw09_shown.calls k  true _ A7.out).mono ?_); rintro e w20 ⟨rfl, hb⟩; refine ⟨_, rfl, ?_⟩; have n0_ := Aside0.mk (Kd.N_below (by (with_reducible repeat (first | apply Kd.N_alloc | apply Kd.N_drewN | apply Kd.N_drew)); exact HO412.out) hb); have n1_ := Aside0.mk (Kd.N_below (by (with_reducible repeat (first | apply Kd.N_alloc | apply Kd.N_drewN | apply Kd.N_drew)); exact HO416.out) hb); have n2_ := Aside0.mk (below_step (by repeat (first | exact HB.out | apply below_alloc | apply pw_below_drewN | apply below_drew1)) hb); clear HO412; clear HO416; clear HB; have HO412 := n0_; have HO416 := n1_; have HB := n2_; clear n0_ n1_ n2_; (try clear hb); (try clear hb2); (try clear hk); (try clear hi); obtain ⟨Ao21, co21, eo21⟩ := Kd.N_slice HO412.out; subst eo21; obtain ⟨Ao22, co22, eo22⟩ := Kd.N_slice HO416.out; subst eo22) | (go_at_call 50; (with_reducible refine (marigraphref09_Same.calls k _ _ t409 _ _ t413 false _ ?side1 ?side2 ?side3 ?side4 A9.out).mono ?_); (case side1 => repeat (first | exact (Kd.N_reads' HO412.out).2.2 | (with_reducible refine Kd.C_alloc ?_ _) | (with_reducible refine Kd.C_drewN ?_ _) | (with_reducible refine Kd.C_drew ?_))); (case side2 => exact (Kd.N_reads' HO412.out).2.1); (case side3 => repeat (first | exact (Kd.N_reads' HO416.out).2.2 | (with_reducible refine Kd.C_alloc ?_ _) | (with_reducible refine Kd.C_drewN ?_ _) | (with_reducible refine Kd.C_drew ?_))); (case side4 => exact (Kd.N_reads' HO416.out).2.1); rintro e w' ⟨rfl, ⟨nd, rfl⟩⟩))
     go_ret
     exact ⟨by first | rfl | (simp [errW_none, errW_some] <;> rfl) | (simp only [← hji2]; first | rfl | (simp [errW_none, errW_some] <;> rfl)) | (simp [*, errW_none, errW_some] <;> rfl), by repeat (first | exact HB.out | apply below_alloc | apply pw_below_drewN | apply below_drew1)⟩
   ·replace c8 := Bool.eq_false_iff.mpr c8
    subst c8
    have H1 : (some false) = some r := by rw [if_neg (show ¬ (false = true) by decide)] at H; exact H
    clear H
    have H := H1
    clear H1
    obtain rfl := Option.some.inj H
    obtain ⟨i023, hi023, _, hsz23, _⟩ := info_parts info5
    obtain ⟨hcut23, hA23, hC23⟩ := print_take_of (P := Try.prog) (Value.int .u8) 0 24 5 .i64 Try.underlying24 hi023 hsz23 A0 c0 l0 (ji2) (of_decide_eq_true (by first | (with_reducible assumption) | assumption)) (of_decide_eq_true (by first | (with_reducible assumption) | assumption)) HC0.out
    have HR408 := Aside0.mk (Kd.C_of_reads (h1 := fun _ => rfl) (hA23 _ (Kd.reads_of_C HR0.out)))
    have HC408 := Aside0.mk hC23
    clear hA23 hC23 hi023 hsz23
    go_enter Try.func17, Try.ntmps17
    go_wp2_with (first | ((with_reducible refine gate_callee (f := 59) rfl ?_); refine goesL_ (some 15) rfl rfl Try.func59 (by kernel_rfl) rfl #[.slice A0 (l0.take ((ji2) : Int).toNat).length c0] rfl (by (try simp only [List.map_toArray, List.map_cons, List.map_nil]); first | done | (rw [show (l0.take ((ji2) : Int).toNat).length = (ji2).toNat from (by rw [List.length_take]; have h_ : ((ji2) : Int) ≤ (l0.length : Int) := of_decide_eq_true (by first | (with_reducible assumption) | assumption); omega)] <;> rfl) | (simp only [hji2]; rfl) | rfl | (simp only [List.length_drop, List.length_take]; rfl)) ?_; (with_reducible refine (block_Take.calls _ _ (l0.take ((ji2) : Int).toNat) t409 t410 _ ?side1 ?side2 A5.out).mono ?_); (case side1 => repeat (first | exact HR408.out | (with_reducible refine Kd.C_alloc ?_ _) | (with_reducible refine Kd.C_drewN ?_ _) | (with_reducible refine Kd.C_drew ?_))); (case side2 => exact HC408.out); rintro e w24 ⟨v411, rfl, ho0, hb⟩; refine ⟨_, rfl, ?_⟩; have n0_ := Aside0.mk (Kd.N_lower ho0 (below_size (by repeat (first | exact HB.out | apply below_alloc | apply pw_below_drewN | apply below_drew1)))); have n1_ := Aside0.mk (below_step (by repeat (first | exact HB.out | apply below_alloc | apply pw_below_drewN | apply below_drew1)) hb); clear HB; have HO412 := n0_; have HB := n1_; clear n0_ n1_; (try clear hb); (try clear hb2); (try clear hk); (try clear hi); (try clear ho0)) | ((with_reducible refine gate_callee (f := 60) rfl ?_); refine goesL_ (some 20) rfl rfl Try.func60 (by kernel_rfl) rfl #[.slice A0 (l0.take ((ji2) : Int).toNat).length c0] rfl (by (try simp only [List.map_toArray, List.map_cons, List.map_nil]); first | done | (rw [show (l0.take ((ji2) : Int).toNat).length = (ji2).toNat from (by rw [List.length_take]; have h_ : ((ji2) : Int) ≤ (l0.length : Int) := of_decide_eq_true (by first | (with_reducible assumption) | assumption); omega)] <;> rfl) | (simp only [hji2]; rfl) | rfl | (simp only [List.length_drop, List.length_take]; rfl)) ?_; (with_reducible refine (marigraphref09_Take.calls _ _ (l0.take ((ji2) : Int).toNat) t413 t414 _ ?side1 ?side2 A6.out).mono ?_); (case side1 => repeat (first | exact (Kd.C_below HR408.out HB.out) | (with_reducible refine Kd.C_alloc ?_ _) | (with_reducible refine Kd.C_drewN ?_ _) | (with_reducible refine Kd.C_drew ?_))); (case side2 => exact HC408.out); rintro e w25 ⟨v415, rfl, ho0, hb⟩; refine ⟨_, rfl, ?_⟩; have n0_ := Aside0.mk (Kd.N_below (by (with_reducible repeat (first | apply Kd.N_alloc | apply Kd.N_drewN | apply Kd.N_drew)); exact HO412.out) hb); have n1_ := Aside0.mk (Kd.N_lower (ho0) (below_size (by repeat (first | exact HB.out | apply below_alloc | apply pw_below_drewN | apply below_drew1)))); have n2_ := Aside0.mk (below_step (by repeat (first | exact HB.out | apply below_alloc | apply pw_below_drewN | apply below_drew1)) hb); clear HO412; clear HB; have HO412 := n0_; have HO416 := n1_; have HB := n2_; clear n0_ n1_ n2_; (try clear hb); (try clear hb2); (try clear hk); (try clear hi); (try clear ho0)) | ((with_reducible refine gate_callee (f := 47) rfl ?_); refine goesL_ (some 23) rfl rfl Try.func47 (by kernel_rfl) rfl #[] rfl (by (try simp only [List.map_toArray, List.map_cons, List.map_nil]); first | done | rfl | (simp only [List.length_drop, List.length_take]; rfl)) ?_; (with_reducible refine (marigraphlaw09_shown.calls k  false _ A7.out).mono ?_); rintro e w26 ⟨rfl, hb⟩; refine ⟨_, rfl, ?_⟩; have n0_ := Aside0.mk (Kd.N_below (by (with_reducible repeat (first | apply Kd.N_alloc | apply Kd.N_drewN | apply Kd.N_drew)); exact HO412.out) hb); have n1_ := Aside0.mk (Kd.N_below (by (with_reducible repeat (first | apply Kd.N_alloc | apply Kd.N_drewN | apply Kd.N_drew)); exact HO416.out) hb); have n2_ := Aside0.mk (below_step (by repeat (first | exact HB.out | apply below_alloc | apply pw_below_drewN | apply below_drew1)) hb); clear HO412; clear HO416; clear HB; have HO412 := n0_; have HO416 := n1_; have HB := n2_; clear n0_ n1_ n2_; (try clear hb); (try clear hb2); (try clear hk); (try clear hi)))
    go_ret
    exact ⟨by first | rfl | (simp [errW_none, errW_some] <;> rfl) | (simp only [← hji2]; first | rfl | (simp [errW_none, errW_some] <;> rfl)) | (simp [*, errW_none, errW_some] <;> rfl), by repeat (first | exact HB.out | apply below_alloc | apply pw_below_drewN | apply below_drew1)⟩
  ·rw [if_neg c4] at H
   exact absurd H (by simp)
 ·rw [if_neg c3] at H
  exact absurd H (by simp)
noncomputable def marigraphlaw09_BlockTakes.Pure : Prop := ∀ (l0 : List Int), l0.length ≤ maxLen → l0.length * 1 ≤ 140737488351232 → (∀ x ∈ l0, (Lit.int .u8 x).wf = true) → ∃ k, marigraphlaw09_BlockTakes.f k l0 = some true
theorem marigraphlaw09_BlockTakes.walk (P : marigraphlaw09_BlockTakes.Pure) (a0 : Option Addr) (len0 cap0 : Nat) (z0 : List Int) (w : World) (w0 : (a0 = none ∧ len0 = 0 ∧ cap0 = 0 ∧ z0 = []) ∨ ∃ x, a0 = some x ∧ len0 ≤ cap0 ∧ cap0 ≤ maxLen ∧ z0.length = cap0 ∧ (∀ i, i < z0.length → w.cell? (x.add i) = some (.int .u8 (z0.getD i 0))) ∧ ∀ n ∈ z0, (Lit.int .u8 n).wf = true) (y0 : len0 * 1 ≤ 140737488351232) :
  Calls Try.prog 17 #[.slice a0 len0 cap0] w fun e w' => e = .returned (.bool true) ∧ Below w.heap.size w w' := by
 obtain ⟨l0, rfl, hr0, hm0, hw0, hc0⟩ := ReadsInt.ofRowC w0
 obtain ⟨k, h⟩ := P l0 hm0 y0 hw0
 refine (marigraphlaw09_BlockTakes.calls k _ _ l0 true w (Kd.C_of_reads (d := (0 : Int)) (h1 := fun _ => rfl) hr0) hc0 h).mono ?_
 rintro e w' ⟨rfl, hd⟩
 exact ⟨rfl, hd⟩
end Go.Proofs.Ythkpnnbjcendcaa.X
end
section
open Go.RowKit Go.Proofs.Ythkpnnbjcendcaa.X Go.Proofs.Ythkpnnbjcendcaa.Pl Go.Proofs.Ythkpnnbjcendcaa.Sp Go.Proofs.Ythkpnnbjcendcaa.Pure Go.Proofs.YthkpnnbjcendcaaW.PrintWords Go.Proofs.YthkpnnbjcendcaaW.PrintLast Go.Proofs.YthkpnnbjcendcaaW.PrintMore
namespace Go.Proofs.Ythkpnnbjcendcaa.Pure
def inR (fr tl : Int) (p : S52) : Bool := !(decide (p.f0 < fr) || decide (tl < p.f0))
end Go.Proofs.Ythkpnnbjcendcaa.Pure
namespace Go.Proofs.Ythkpnnbjcendcaa.Sc
end Go.Proofs.Ythkpnnbjcendcaa.Sc
end
section
namespace Go.Proofs.Ythkpnnbjcendcaa.X
open Go.RowKit Go.Proofs.YthkpnnbjcendcaaW.PrintWords Go.Proofs.YthkpnnbjcendcaaW.PrintLast Go.Proofs.YthkpnnbjcendcaaW.PrintMore
attribute [local go_sem] max2_int min2_int max_two min_two max_three min_three max_four min_four
mutual
def marigraphref09_Span.l0 : Nat → List (S109) → Int → Int → Bool → Int → Option (Int × Int × Bool)
 | 0, _, _, _, _, _ => none
 | k + 1, x0, x5, x6, x7, x8 => if x8 < (x0.length : Int) then (marigraphref09_Span.l1 k x0 x5 x6 x7 x8 0) else (some (x5, x6, x7))
def marigraphref09_Span.l1 : Nat → List (S109) → Int → Int → Bool → Int → Int → Option (Int × Int × Bool)
 | 0, _, _, _, _, _, _ => none
 | k + 1, x0, x5, x6, x7, x8, x9 => if 0 ≤ x8 then (if x8 < (x0.length : Int) then (if x9 < (((rd_T109 x0 x8).f1).length : Int) then (if 0 ≤ x9 then (if x7 = true then (marigraphref09_Span.j2 k x0 x5 x6 x7 x8 x9 ((rd_T52 ((rd_T109 x0 x8).f1) x9).f0) (decide (((rd_T52 ((rd_T109 x0 x8).f1) x9).f0) < x5))) else (marigraphref09_Span.j2 k x0 x5 x6 x7 x8 x9 ((rd_T52 ((rd_T109 x0 x8).f1) x9).f0) true)) else (none)) else (marigraphref09_Span.l0 k x0 x5 x6 x7 (wrap64 (x8 + 1)))) else (none)) else (none)
def marigraphref09_Span.j2 : Nat → List (S109) → Int → Int → Bool → Int → Int → Int → Bool → Option (Int × Int × Bool)
 | 0, _, _, _, _, _, _, _, _ => none
 | k + 1, x0, x5, x6, x7, x8, x9, x10, x42 => if x42 = true then (if x7 = true then (if x10 > x6 then (marigraphref09_Span.l1 k x0 x10 x10 true x8 (wrap64 (x9 + 1))) else (marigraphref09_Span.l1 k x0 x10 x6 true x8 (wrap64 (x9 + 1)))) else (marigraphref09_Span.l1 k x0 x10 x10 true x8 (wrap64 (x9 + 1)))) else (if x7 = true then (if x10 > x6 then (marigraphref09_Span.l1 k x0 x5 x10 true x8 (wrap64 (x9 + 1))) else (marigraphref09_Span.l1 k x0 x5 x6 true x8 (wrap64 (x9 + 1)))) else (marigraphref09_Span.l1 k x0 x5 x10 true x8 (wrap64 (x9 + 1))))
end
end Go.Proofs.Ythkpnnbjcendcaa.X
end
section
namespace Go.Proofs.Ythkpnnbjcendcaa.X
open Go.RowKit Go.Proofs.YthkpnnbjcendcaaW.PrintWords Go.Proofs.YthkpnnbjcendcaaW.PrintLast Go.Proofs.YthkpnnbjcendcaaW.PrintMore
attribute [local go_sem] max2_int min2_int max_two min_two max_three min_three max_four min_four
def marigraphref09_Within.l0 : Nat → List (S52) → Int → Int → List (S52) → Int → Option ((List (S52)))
 | 0, _, _, _, _, _ => none
 | k + 1, x0, x1, x2, x7, x8 => if x8 < (x0.length : Int) then (if 0 ≤ x8 then (if ((rd_T52 x0 x8).f0) ≥ x1 then (if ((rd_T52 x0 x8).f0) ≤ x2 then (if x7.length < 8796093022208 then (marigraphref09_Within.l0 k x0 x1 x2 (x7 ++ [(⟨(rd_T52 x0 x8).f0, (rd_T52 x0 x8).f1⟩ : S52)]) (wrap64 (x8 + 1))) else (none)) else (marigraphref09_Within.l0 k x0 x1 x2 x7 (wrap64 (x8 + 1)))) else (marigraphref09_Within.l0 k x0 x1 x2 x7 (wrap64 (x8 + 1)))) else (none)) else (some x7)
end Go.Proofs.Ythkpnnbjcendcaa.X
end
