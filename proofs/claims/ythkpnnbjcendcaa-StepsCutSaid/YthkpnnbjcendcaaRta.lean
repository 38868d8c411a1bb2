/- The reference's Take, walked. -/
import Derived.Test.YthkpnnbjcendcaaRnu
import Derived.Test.YthkpnnbjcendcaaStt
set_option linter.unusedVariables false
set_option linter.unusedSimpArgs false
open Go.RowKit Go.Proofs.Ythkpnnbjcendcaa.X Go.Proofs.Ythkpnnbjcendcaa.Pl Go.Proofs.Ythkpnnbjcendcaa.Sp Go.Proofs.Ythkpnnbjcendcaa.Pure Go.Proofs.YthkpnnbjcendcaaW.PrintWords Go.Proofs.YthkpnnbjcendcaaW.PrintLast Go.Proofs.YthkpnnbjcendcaaW.PrintMore
namespace Go.Proofs.Ythkpnnbjcendcaa.Sp
theorem Sep.r3 {base : Nat} {w : World} {a b c : Res} {rs : List Res} (h : Sep base w (a :: b :: c :: rs)) : Sep base w (a :: c :: b :: rs) := h.perm ((List.Perm.swap _ _ _).cons _)
/-- A number of an own row, in memory. -/
theorem Sep.celln {base e n cap : Nat} {k : IntKind} {xs : List Int} {W : World} {F : Nat → Prop} {rs : List Res} {ad : Addr} (h : Sep base W (Sp.row F (Kd.int k) e base (.slice (some ad) n cap) xs :: rs)) (i : Nat) (x : Int) (hi : i < n) (hn : xs.length = n) (hx : xs.getD i 0 = x) : W.cell? (ad.add i) = some (.int k x) := by
  subst hn
  obtain ⟨a2, e2, h2⟩ := Kd.at_int (Kd.R_reads' h.R).2.2 (i : Int) (by omega) (by omega)
  injection e2 with e2
  subst e2
  rw [Int.toNat_natCast, rd_get, hx] at h2
  exact h2
end Go.Proofs.Ythkpnnbjcendcaa.Sp
namespace Go.Proofs.Ythkpnnbjcendcaa.Pure
/-- Two marks, one behind the other, whatever reads them. -/
theorem two_marksF {f : List Int → Nat → Option (Int × Nat)} {r : List Int} {q q1 q2 : Nat} {v1 v2 : Int} {bad1 bad2 : Bool}
    (h1 : ∀ n p', f r q = some (n, p') → false = false → bad1 = false ∧ v1 = n ∧ q1 = p') (h1n : f r q = none → bad1 = true)
    (hm : bad1 = true → bad2 = true) (h2 : ∀ n p', f r q1 = some (n, p') → bad1 = false → bad2 = false ∧ v2 = n ∧ q2 = p') (h2n : f r q1 = none → bad2 = true) :
    (bad2 = true → ∀ k, decXY f r (k + 1) q = none) ∧ (bad2 = false → ∀ k, decXY f r (k + 1) q = (decXY f r k q2).map fun t => (v1 :: t.1, v2 :: t.2.1, t.2.2)) := by
  constructor
  · intro hb k
    rw [decXY]
    rcases hd : f r q with _ | ⟨n, p'⟩
    · rfl
    · obtain ⟨e1, e2, e3⟩ := h1 n p' hd rfl
      subst e2 e3
      dsimp only
      rcases hd2 : f r q1 with _ | ⟨n2, p2⟩
      · rfl
      · have := (h2 n2 p2 hd2 e1).1
        rw [hb] at this
        cases this
  · intro hb k
    rcases hd : f r q with _ | ⟨n, p'⟩
    · rw [hm (h1n hd)] at hb
      cases hb
    · obtain ⟨e1, e2, e3⟩ := h1 n p' hd rfl
      subst e2 e3
      rw [decXY, hd]
      dsimp only
      rcases hd2 : f r q1 with _ | ⟨n2, p2⟩
      · rw [h2n hd2] at hb
        cases hb
      · obtain ⟨e4, e5, e6⟩ := h2 n2 p2 hd2 e1
        subst e5 e6
        dsimp only
        rcases decXY f r k q2 with _ | ⟨xs, ys, z⟩ <;> rfl
theorem putR_byt (l : List S52) : Byt (putR l).1 := by
  unfold putR
  split
  · intro x hx; cases hx
  · split
    · intro x hx; cases hx
    · intro x hx
      rcases List.mem_append.1 hx with h | h
      · exact varint_byt _ x h
      · exact byt_pack _ x h
theorem zipP_take_succ : ∀ (xs ys : List Int) (j : Nat), j < xs.length → j < ys.length → (zipP xs ys).take (j + 1) = (zipP xs ys).take j ++ [⟨xs.getD j 0, ys.getD j 0⟩]
  | [], _, j, hx, _ => absurd hx (by simp)
  | _ :: _, [], j, _, hy => absurd hy (by simp)
  | x :: xs, y :: ys, 0, _, _ => rfl
  | x :: xs, y :: ys, j + 1, hx, hy => by
    have := zipP_take_succ xs ys j (by simpa using hx) (by simpa using hy)
    rw [zipP_cons, List.take_succ_cons, this, List.take_succ_cons]
    rfl
end Go.Proofs.Ythkpnnbjcendcaa.Pure
namespace Go.Proofs.Ythkpnnbjcendcaa.Sc
theorem rnum_yes (m : Nat) (r : List Int) (hm : m < 2 ^ 64) (g : Nat) (A : Option Addr) (c : Nat) (b : List Int) (hb : b = varint m ++ r) (bad : Bool) (w0 w : World) (hB : Below w0.heap.size w0 w) (hO : Own w0.heap.size w (rtR g (.slice A b.length c) bad)) (hr : Kd.C (Kd.int .u8) w A b.length b) (hc : b.length ≤ c) (hby : Byt b) (hl : b.length < 1000000) :
    Calls Try.prog 79 #[.pointer (some ⟨g, 0, none⟩)] w fun e w' => ∃ A' c', e = .returned (.int .u64 (m : Int)) ∧ r.length ≤ c' ∧ (∀ w2, Kd.C (Kd.int .u8) w2 A b.length b → Kd.C (Kd.int .u8) w2 A' r.length r) ∧ Turned w0 w w' (fun k => k = g) (fun _ => rtR g (.slice A' r.length c') bad) := by
  refine (rnum_calls g A c b bad w0 w hB hO hr hc hby hl).mono ?_
  rintro e w' (⟨m', r', A', c', hm', he, h1, h2, h3, h4⟩ | ⟨hno, _⟩)
  · obtain ⟨e1, e2⟩ := varint_inj _ _ _ _ (hb.symm.trans he)
    rw [← e1] at h1
    rw [← e2] at h2 h3 h4
    exact ⟨A', c', h1, h2, h3, h4⟩
  · exact absurd hb (hno m r hm)
theorem rnum_no (g : Nat) (A : Option Addr) (c : Nat) (b : List Int) (hno : ∀ m r, m < 2 ^ 64 → b ≠ varint m ++ r) (bad : Bool) (w0 w : World) (hB : Below w0.heap.size w0 w) (hO : Own w0.heap.size w (rtR g (.slice A b.length c) bad)) (hr : Kd.C (Kd.int .u8) w A b.length b) (hc : b.length ≤ c) (hby : Byt b) (hl : b.length < 1000000) :
    Calls Try.prog 79 #[.pointer (some ⟨g, 0, none⟩)] w fun e w' => e = .returned (.int .u64 0) ∧ Turned w0 w w' (fun k => k = g) (fun _ => rtR g (.slice none 0 0) true) := by
  refine (rnum_calls g A c b bad w0 w hB hO hr hc hby hl).mono ?_
  rintro e w' (⟨m', r', A', c', hm', he, _⟩ | ⟨_, h1, h2⟩)
  · exact absurd he (hno m' r' hm')
  · exact ⟨h1, h2⟩
theorem rdmark_n (g : Nat) (A : Option Addr) (c n : Nat) (b : List Int) (p : Nat) (bad : Bool) (w0 w : World) (hn : b.length = n) (hB : Below w0.heap.size w0 w) (hO : Own w0.heap.size w (rdR g (.slice A n c) p bad)) (hr : Kd.C (Kd.int .u8) w0 A b.length b) (hc : b.length ≤ c) (hby : Byt b) (hl : n < 1000000) (hp : p < 900000000) :
    Calls Try.prog 80 #[.pointer (some ⟨g, 0, none⟩)] w fun e w' => MarkR (rdR g (.slice A n c)) g (decL b p) p bad w0 w e w' := by
  subst hn
  exact rdmark_calls g A c b p bad w0 w hB hO hr hc hby hl hp
theorem reffrs_n (A0 : Option Addr) (c0 n : Nat) (l0 xs : List Int) (w : World) (hn : l0.length = n) (hx : xs = frs 0 0 l0) (hr0 : Kd.C (Kd.int .i64) w A0 l0.length l0) (hc0 : n ≤ c0) (hl : n ≤ 1000000) :
    Calls Try.prog 40 #[.slice A0 n c0] w fun e w' => ∃ v, e = .returned v ∧ Kd.R (Kd.int .i64) 3 w' w.heap.size (fun _ => True) v xs ∧ Below w.heap.size w w' := by
  subst hn hx
  exact reffrs_calls A0 c0 l0 w hr0 hc0 hl
theorem rput_n (A0 : Option Addr) (c0 n : Nat) (l0 : List S52) (O : List Int) (q : Int) (w : World) (hn : l0.length = n) (ho : (putR l0).1 = O) (hq : (putR l0).2 = q) (hr0 : Kd.C k52 w A0 l0.length l0) (hc0 : n ≤ c0) (hl : n < 4611686018427387904) :
    Calls Try.prog 31 #[.slice A0 n c0] w fun e w' => ∃ v, e = .returned (.tuple #[v, .int .i64 q]) ∧ Kd.R (Kd.int .u8) 5 w' w.heap.size (fun _ => True) v O ∧ Below w.heap.size w w' := by
  subst hn
  exact rput_named A0 c0 l0 O q w ho hq hr0 hc0 hl
set_option maxHeartbeats 16000000 in
set_option maxRecDepth 100000 in
theorem rtake_calls (A0 : Option Addr) (c0 : Nat) (b : List Int) (l : List S52) (z : Int) (w : World) (hr0 : Kd.C (Kd.int .u8) w A0 b.length b) (hc0 : b.length ≤ c0) (hby : Byt b) (hl : b.length < 1000000) (hlz : takeR b = (l, z)) :
    Calls Try.prog 42 #[.slice A0 b.length c0] w fun e w' => ∃ A c, e = .returned (.tuple #[.slice A l.length c, .int .i64 z]) ∧ Kd.C k52 w' A l.length l ∧ l.length ≤ c ∧ Below w.heap.size w w' := by
  have HB := Aside0.mk (Below.refl w.heap.size w)
  have HS := Aside0.mk (Sep.nil w.heap.size w)
  have HR := Aside0.mk hr0
  have HC := Aside0.mk hc0
  have HBY := Aside0.mk hby
  have HL := Aside0.mk hl
  have HLZ := Aside0.mk hlz
  clear hr0 hc0 hby hl hlz
  by_cases hex : ∃ (m : Nat) (r : List Int), m < 2 ^ 64 ∧ b = varint m ++ r
  · obtain ⟨m, r, hm, hbr⟩ := hex
    have HM := Aside0.mk hm
    have HBR := Aside0.mk hbr
    obtain ⟨nr, hnr⟩ : ∃ n, n = r.length := ⟨_, rfl⟩
    have HNR := Aside0.mk hnr
    by_cases hlong : m > 1024
    · have HE := Aside0.mk (show takeR b = ([], 6) by rw [hbr]; exact take_long hlong)
      have c1b : decide ((1024 : Int) < (m : Int)) = true := decide_eq_true (by omega)
      have c1n : decide (1024 < m) = true := decide_eq_true hlong
      clear hm hbr hnr hlong
      go_enter Try.func42, Try.ntmps42
      go_wp2_with (first
        | ((with_reducible refine gate_dst (N := 16) rfl ?_); (try (refine gate_guard (by rfl) ?_; dsimp only)); (refine wp_lit (Kd.int .u8) (w0 := w) ?hg_ (N := 16) ?hd_ 5 (([] : List Int)) [] ?hr_ ?hp_ (by repeat (first | (with_reducible first | exact HS.out | apply sep_alloc | apply sep_drewN | apply sep_drew) | exact HS.out)) (by repeat (first | (with_reducible first | exact HB.out | apply below_alloc | apply pw_below_drewN | apply below_drew1) | exact HB.out)) (by simp) ?_; (case hd_ => rfl); (case hg_ => rfl); (case hr_ => first | (go_simp; done) | (go_simp; rfl)); (case hp_ => exact (Reps.none _ _))); intro v_ w_ F_ hs_ hb_; clear HB HS; have HB := Aside0.mk hb_; have HS := Aside0.mk hs_; clear hs_ hb_; obtain ⟨A_, c_, e_⟩ := Kd.R_slice (Sep.R HS.out); subst e_; (skip))
        | ((with_reducible refine gate_builtin (b := .append) (xs := #[.tmp 16, .tmp 17]) rfl ?_); (refine wp_append_row (Kd.int .u8) (w0 := w) rfl (.tmp 16) (.tmp 17) 24 5 (.int .u8 0) 1 rfl Try.underlying24 info5 rfl (by decide) (by omega) b _ _ _ HS.out (Kd.C_below HR.out HB.out) (fun _ _ h => h) (by repeat (first | (with_reducible first | exact HB.out | apply below_alloc | apply pw_below_drewN | apply below_drew1) | exact HB.out)) (by have := HL.out; simp; omega) rfl rfl ?_); (intro v_ w_ F_ hs_ hb_); (obtain ⟨O0, hy_⟩ : ∃ y_, y_ = ([] : List Int) ++ b := ⟨_, rfl⟩; rw [← hy_] at hs_; have HO0 := Aside0.mk hy_; clear hy_ HB HS; have HB := Aside0.mk hb_; have HS := Aside0.mk hs_; clear hs_ hb_; obtain ⟨A_, c_, e_⟩ := Kd.R_slice (Sep.R HS.out); subst e_); (have ho0 : b = O0 := (by rw [HO0.out]; rfl); clear HO0; subst ho0))
        | ((with_reducible refine gate_dst (N := 20) rfl ?_); (try (refine gate_guard (by rfl) ?_; dsimp only)); refine box_event ?hg (N := 20) ?hd (cs := #[.slice A_ b.length c_, .bool false]) (t := 104) ?hr ?_; (case hd => rfl); (case hg => rfl); (case hr => first | (go_simp; done) | (go_simp; rfl)); intro g hg w5 hbox hb; have n0_ := Aside0.mk (below_step (by repeat (first | (with_reducible first | exact HB.out | apply below_alloc | apply pw_below_drewN | apply below_drew1) | exact HB.out)) hb); have n1_ := Aside0.mk (Sep.newbox (by repeat (first | (with_reducible first | exact HS.out | apply sep_alloc | apply sep_drewN | apply sep_drew) | exact HS.out)) hb (Nat.le_of_eq hg.symm) (below_size (by repeat (first | (with_reducible first | exact HB.out | apply below_alloc | apply pw_below_drewN | apply below_drew1) | exact HB.out))) hbox); clear HB HS; have HB := n0_; have HS := n1_; clear n0_ n1_ hb hbox hg)
        | (go_at_call 79; ((with_reducible refine (rnum_yes m r HM.out g A_ c_ b HBR.out false w _ HB.out HS.out.own (Kd.R_reads' (Sep.R HS.out.drop)).2.2 (Kd.R_reads' (Sep.R HS.out.drop)).2.1 HBY.out HL.out).mono ?_); rintro e w2 ⟨A2, c2, rfl, hlc, hcd, ht⟩; rw [← HNR.out] at ht; clear hlc hcd; obtain ⟨F_, hs_⟩ := Turned.sep ht (HS.out) rfl; have n0_ := Aside0.mk (Turned.below ht); clear HB HS ht; have HB := n0_; have HS := Aside0.mk hs_; clear n0_ hs_; have hc1 := Sep.c21 HS.out)))
      go_ret2
      have hl := HLZ.out
      rw [HE.out] at hl
      injection hl with h1 h2
      subst h1 h2
      exact ⟨none, 0, rfl, Kd.C_nil _ _, by simp, HB.out⟩
    · have c1b : decide ((1024 : Int) < (m : Int)) = false := decide_eq_false (by omega)
      have c1n : decide (1024 < m) = false := decide_eq_false hlong
      have HM2 := Aside0.mk (show m ≤ 1024 by omega)
      have HBYR := Aside0.mk (show Byt r from byt_app (a := varint m) (hbr ▸ HBY.out))
      have HRL := Aside0.mk (show nr < 1000000 by have := HL.out; rw [hbr, List.length_append, ← hnr] at this; omega)
      clear hm hbr hlong hnr
      go_enter Try.func42, Try.ntmps42
      go_wp2_with (first
        | ((with_reducible refine gate_dst (N := 16) rfl ?_); (try (refine gate_guard (by rfl) ?_; dsimp only)); (refine wp_lit (Kd.int .u8) (w0 := w) ?hg_ (N := 16) ?hd_ 5 (([] : List Int)) [] ?hr_ ?hp_ (by repeat (first | (with_reducible first | exact HS.out | apply sep_alloc | apply sep_drewN | apply sep_drew) | exact HS.out)) (by repeat (first | (with_reducible first | exact HB.out | apply below_alloc | apply pw_below_drewN | apply below_drew1) | exact HB.out)) (by simp) ?_; (case hd_ => rfl); (case hg_ => rfl); (case hr_ => first | (go_simp; done) | (go_simp; rfl)); (case hp_ => exact (Reps.none _ _))); intro v_ w_ F_ hs_ hb_; clear HB HS; have HB := Aside0.mk hb_; have HS := Aside0.mk hs_; clear hs_ hb_; obtain ⟨A_, c_, e_⟩ := Kd.R_slice (Sep.R HS.out); subst e_; (skip))
        | ((with_reducible refine gate_builtin (b := .append) (xs := #[.tmp 16, .tmp 17]) rfl ?_); (refine wp_append_row (Kd.int .u8) (w0 := w) rfl (.tmp 16) (.tmp 17) 24 5 (.int .u8 0) 1 rfl Try.underlying24 info5 rfl (by decide) (by omega) b _ _ _ HS.out (Kd.C_below HR.out HB.out) (fun _ _ h => h) (by repeat (first | (with_reducible first | exact HB.out | apply below_alloc | apply pw_below_drewN | apply below_drew1) | exact HB.out)) (by have := HL.out; simp; omega) rfl rfl ?_); (intro v_ w_ F_ hs_ hb_); (obtain ⟨O0, hy_⟩ : ∃ y_, y_ = ([] : List Int) ++ b := ⟨_, rfl⟩; rw [← hy_] at hs_; have HO0 := Aside0.mk hy_; clear hy_ HB HS; have HB := Aside0.mk hb_; have HS := Aside0.mk hs_; clear hs_ hb_; obtain ⟨A_, c_, e_⟩ := Kd.R_slice (Sep.R HS.out); subst e_); (have ho0 : b = O0 := (by rw [HO0.out]; rfl); clear HO0; subst ho0))
        | ((with_reducible refine gate_dst (N := 20) rfl ?_); (try (refine gate_guard (by rfl) ?_; dsimp only)); refine box_event ?hg (N := 20) ?hd (cs := #[.slice A_ b.length c_, .bool false]) (t := 104) ?hr ?_; (case hd => rfl); (case hg => rfl); (case hr => first | (go_simp; done) | (go_simp; rfl)); intro g hg w5 hbox hb; have n0_ := Aside0.mk (below_step (by repeat (first | (with_reducible first | exact HB.out | apply below_alloc | apply pw_below_drewN | apply below_drew1) | exact HB.out)) hb); have n1_ := Aside0.mk (Sep.newbox (by repeat (first | (with_reducible first | exact HS.out | apply sep_alloc | apply sep_drewN | apply sep_drew) | exact HS.out)) hb (Nat.le_of_eq hg.symm) (below_size (by repeat (first | (with_reducible first | exact HB.out | apply below_alloc | apply pw_below_drewN | apply below_drew1) | exact HB.out))) hbox); clear HB HS; have HB := n0_; have HS := n1_; clear n0_ n1_ hb hbox hg)
        | (go_at_call 79; ((with_reducible refine (rnum_yes m r HM.out g A_ c_ b HBR.out false w _ HB.out HS.out.own (Kd.R_reads' (Sep.R HS.out.drop)).2.2 (Kd.R_reads' (Sep.R HS.out.drop)).2.1 HBY.out HL.out).mono ?_); rintro e w2 ⟨A2, c2, rfl, hlc, hcd, ht⟩; rw [← HNR.out] at ht; obtain ⟨F_, hs_⟩ := Turned.sep ht (HS.out) rfl; have n0_ := Aside0.mk (Turned.below ht); clear HB HS ht; have HB := n0_; have HS := Aside0.mk hs_; clear n0_ hs_; have hc0 := Sep.c20 HS.out; have hc1 := Sep.c21 HS.out; have HCR := Aside0.mk (hcd _ (Kd.R_reads' (Sep.R HS.out.drop)).2.2); have HC2 := Aside0.mk hlc; clear hlc hcd; have HBW := Aside0.mk HB.out; clear HB HS; have HB := Aside0.mk (Below.refl w2.heap.size w2); have HS := Aside0.mk (Sep.nil w2.heap.size w2)))
        | ((with_reducible refine gate_dst (N := 36) rfl ?_); (try (refine gate_guard (by rfl) ?_; dsimp only)); refine box_event ?hg (N := 36) ?hd (cs := #[.slice A2 nr c2, .int .i64 0, .bool false]) (t := 107) ?hr ?_; (case hd => rfl); (case hg => rfl); (case hr => first | (go_simp; done) | (go_simp; rfl)); intro gx hg w6 hbox hb; have n0_ := Aside0.mk (below_step (by repeat (first | (with_reducible first | exact HB.out | apply below_alloc | apply pw_below_drewN | apply below_drew1) | exact HB.out)) hb); have n1_ := Aside0.mk (Sep.newbox (by repeat (first | (with_reducible first | exact HS.out | apply sep_alloc | apply sep_drewN | apply sep_drew) | exact HS.out)) hb (Nat.le_of_eq hg.symm) (below_size (by repeat (first | (with_reducible first | exact HB.out | apply below_alloc | apply pw_below_drewN | apply below_drew1) | exact HB.out))) hbox); clear HB HS; have HB := n0_; have HS := n1_; clear n0_ n1_ hb hbox hg))
      have n0_ := (HS.out.nilrow (Kd.int .i64) 3).nilrow (Kd.int .i64) 3
      clear HS
      have HS := Aside0.mk n0_
      clear n0_ hc0 hc1
      have HXY := Aside0.mk (show decXY decL r m 0 = (decXY decL r (m - 0) 0).map (fun t => (([] : List Int) ++ t.1, ([] : List Int) ++ t.2.1, t.2.2)) by
        rcases decXY decL r m 0 with _ | ⟨xs, ys, z⟩ <;> rfl)
      have hmi : wrap64 (m : Int) = (m : Int) := by have := HM2.out; rw [w64 (by omega) (by omega)]
      go_loopg [7, 8, 9] m (fun kq v7 v8 v9 w' => ∃ (j : Nat) (xs ys : List Int) (Fx Fy : Nat → Prop) (q : Nat) (bad : Bool), v9 = .int .i64 (j : Int) ∧
        Aside0 (kq + j = m ∧ q ≤ 136 * j ∧ xs.length = j ∧ ys.length = j ∧ (bad = true → decXY decL r m 0 = none) ∧ (bad = false → decXY decL r m 0 = (decXY decL r (m - j) q).map (fun t => (xs ++ t.1, ys ++ t.2.1, t.2.2)))) ∧
        Aside0 (Sep w2.heap.size w' [row Fy (Kd.int .i64) 3 w2.heap.size v8 ys, row Fx (Kd.int .i64) 3 w2.heap.size v7 xs, rdR gx (.slice A2 nr c2) q bad]) ∧ Aside0 (Below w2.heap.size w2 w'))
      case atStart => exact ⟨0, [], [], _, _, 0, false, rfl, ⟨by omega, by omega, rfl, rfl, by simp, fun _ => HXY.out⟩, HS, HB⟩
      case round =>
        clear HS HB HXY
        obtain ⟨j, xs, ys, Fx, Fy, q, bad, rfl, HI, HS, HB⟩ := hrel
        obtain ⟨Ay, cy, ey⟩ := Kd.R_slice (Sep.R HS.out)
        obtain ⟨Ax, cx, ex⟩ := Kd.R_slice (Sep.R HS.out.drop)
        have hx2 := Sep.c32 HS.out.p3
        by_cases hgo : j < m ∧ bad = false
        · obtain ⟨hlt, rfl⟩ := hgo
          subst ex ey
          obtain ⟨k1, rfl⟩ : ∃ n, gk = n + 1 := ⟨gk - 1, by have := HI.out.1; omega⟩
          have d1b : decide ((j : Int) < (m : Int)) = true := decide_eq_true (by omega)
          have d1n : decide (j < m) = true := decide_eq_true hlt
          have hnx : wrap64 ((j : Int) + 1) = ((j + 1 : Nat) : Int) := by have := HM2.out; rw [w64 (by omega) (by omega)]; simp
          have HX := Aside0.mk hnx
          have HJ := Aside0.mk hlt
          have HQ := Aside0.mk (show q < 800000000 by have := HI.out.2.1; have := HM2.out; omega)
          have HXL := Aside0.mk (show xs.length + 1 ≤ 2000 by have := HI.out.2.2.1; have := HM2.out; omega)
          have HYL := Aside0.mk (show ys.length + 1 ≤ 2000 by have := HI.out.2.2.2.1; have := HM2.out; omega)
          have HDC := Aside0.mk (HI.out.2.2.2.2.2 rfl)
          clear hnx hlt
          go_wp2_with (first
            | ((with_reducible refine gate_dst (N := 52) rfl ?_); (try (refine gate_guard (by rfl) ?_; dsimp only)); refine goesL_ (some 52) rfl rfl Try.func80 (by kernel_rfl) rfl #[.pointer (some ⟨gx, 0, none⟩)] rfl (by (try simp only [List.map_toArray, List.map_cons, List.map_nil]); first | done | rfl) ?_; (with_reducible refine (rdmark_n gx A2 c2 nr r q false w2 _ HNR.out.symm HB.out HS.out.p3.own HCR.out HC2.out HBYR.out HRL.out (by have := HQ.out; omega)).mono ?_); rintro e w8 ⟨v1, q1, bad1, rfl, ht, hq1, _, h11, h12⟩; refine ⟨_, rfl, ?_⟩; have H11 := Aside0.mk h11; have H12 := Aside0.mk h12; have HQ1 := Aside0.mk hq1; clear h11 h12 hq1 hx2; obtain ⟨F_, hs_⟩ := Turned.sep ht (HS.out.p3) rfl; have n0_ := Aside0.mk (Turned.below ht); clear HB HS ht; have HB := n0_; have HS := Aside0.mk hs_; clear n0_ hs_)
            | ((with_reducible refine gate_builtin (b := .append) (xs := #[.tmp 50, .tmp 53]) rfl ?_); (at_builtin); (refine wp_append (Kd.int .i64) (w0 := w2) rfl (.tmp 50) (.tmp 53) 54 3 (.int .i64 0) 8 rfl Try.underlying54 info3 rfl (by decide) (by omega) (v1) [.int .i64 v1] HS.out.p3 rfl rfl rfl (by repeat (first | (with_reducible first | exact HB.out | apply below_alloc | apply pw_below_drewN | apply below_drew1) | exact HB.out)) (by have := HXL.out; omega) ?_); (intro v_ w_ F_ hs_ hb_); (obtain ⟨X1, hy_⟩ : ∃ y_, y_ = xs ++ [v1] := ⟨_, rfl⟩; rw [← hy_] at hs_; have HX1 := Aside0.mk hy_; clear hy_ HB HS; have HB := Aside0.mk hb_; have HS := Aside0.mk hs_; clear hs_ hb_; obtain ⟨A_, c_, e_⟩ := Kd.R_slice (Sep.R HS.out); subst e_); (skip))
            | ((with_reducible refine gate_dst (N := 57) rfl ?_); (try (refine gate_guard (by rfl) ?_; dsimp only)); refine goesL_ (some 57) rfl rfl Try.func80 (by kernel_rfl) rfl #[.pointer (some ⟨gx, 0, none⟩)] rfl (by (try simp only [List.map_toArray, List.map_cons, List.map_nil]); first | done | rfl) ?_; (with_reducible refine (rdmark_n gx A2 c2 nr r q1 bad1 w2 _ HNR.out.symm HB.out HS.out.p2.own HCR.out HC2.out HBYR.out HRL.out (by have := HQ.out; have := HQ1.out; omega)).mono ?_); rintro e w9 ⟨v2, q2, bad2, rfl, ht, hq2, hm12, h21, h22⟩; refine ⟨_, rfl, ?_⟩; have H2M := Aside0.mk hm12; have H21 := Aside0.mk h21; have H22 := Aside0.mk h22; have HQ2 := Aside0.mk hq2; clear h21 h22 hq2 hm12; obtain ⟨F_, hs_⟩ := Turned.sep ht (HS.out.p2) rfl; have n0_ := Aside0.mk (Turned.below ht); clear HB HS ht; have HB := n0_; have HS := Aside0.mk hs_; clear n0_ hs_)
            | ((with_reducible refine gate_builtin (b := .append) (xs := #[.tmp 55, .tmp 58]) rfl ?_); (at_builtin); (refine wp_append (Kd.int .i64) (w0 := w2) rfl (.tmp 55) (.tmp 58) 54 3 (.int .i64 0) 8 rfl Try.underlying54 info3 rfl (by decide) (by omega) (v2) [.int .i64 v2] HS.out.p3 rfl rfl rfl (by repeat (first | (with_reducible first | exact HB.out | apply below_alloc | apply pw_below_drewN | apply below_drew1) | exact HB.out)) (by have := HYL.out; omega) ?_); (intro v_ w_ F_ hs_ hb_); (obtain ⟨Y1, hy_⟩ : ∃ y_, y_ = ys ++ [v2] := ⟨_, rfl⟩; rw [← hy_] at hs_; have HY1 := Aside0.mk hy_; clear hy_ HB HS; have HB := Aside0.mk hb_; have HS := Aside0.mk hs_; clear hs_ hb_; obtain ⟨A_, c_, e_⟩ := Kd.R_slice (Sep.R HS.out); subst e_); (skip)))
          have HNN := Aside0.mk (two_marksF (fun n p' h _ => H11.out n p' h (by trivial)) H12.out H2M.out H21.out H22.out)
          go_roundg k1
          case measure => omega
          case rel => exact ⟨j + 1, X1, Y1, _, _, q2, bad2, (by first | rfl | rw [HX.out]), ⟨by have := HI.out.1; omega, by have := HI.out.2.1; have := HQ1.out; have := HQ2.out; omega, by rw [HX1.out, List.length_append, HI.out.2.2.1]; rfl, by rw [HY1.out, List.length_append, HI.out.2.2.2.1]; rfl, fun h => by
              rw [HDC.out, show m - j = (m - (j + 1)) + 1 by have := HJ.out; omega, HNN.out.1 h]
              rfl, fun h => by
              rw [HDC.out, show m - j = (m - (j + 1)) + 1 by have := HJ.out; omega, HNN.out.2 h, HX1.out, HY1.out]
              rcases decXY decL r (m - (j + 1)) q2 with _ | ⟨us, vs, z⟩
              · rfl
              · simp only [Option.map_some, List.append_assoc, List.cons_append, List.nil_append]⟩, ⟨HS.out.r3⟩, HB⟩
        · by_cases hbad : bad = true
          · subst hbad
            have HE := Aside0.mk (show takeR b = ([], 6) by rw [HBR.out]; exact take_lax (HI.out.2.2.2.2.1 rfl))
            have hcs : decide ((j : Int) < (m : Int)) = true ∧ decide (j < m) = true ∨ decide ((j : Int) < (m : Int)) = false ∧ decide (j < m) = false := by
              by_cases h : j < m
              · exact .inl ⟨decide_eq_true (by omega), decide_eq_true h⟩
              · exact .inr ⟨decide_eq_false (by omega), decide_eq_false h⟩
            clear hgo
            rcases hcs with ⟨d1b, d1n⟩ | ⟨d1b, d1n⟩
            all_goals (
              go_wp2
              go_ret2
              have hl := HLZ.out
              rw [HE.out] at hl
              injection hl with h1 h2
              subst h1 h2
              exact ⟨none, 0, rfl, Kd.C_nil _ _, by simp, below_step HBW.out HB.out⟩)
          · have hbf : bad = false := by simpa using hbad
            subst hbf
            have hlt : ¬ j < m := fun h => hgo ⟨h, rfl⟩
            have d1b : decide ((j : Int) < (m : Int)) = false := decide_eq_false (by omega)
            have d1n : decide (j < m) = false := decide_eq_false hlt
            have hjm : j = m := by have := HI.out.1; omega
            have HXM := Aside0.mk (show xs.length = m by rw [HI.out.2.2.1, hjm])
            have HYM := Aside0.mk (show ys.length = m by rw [HI.out.2.2.2.1, hjm])
            rw [HXM.out] at ex
            rw [HYM.out] at ey
            subst ex ey
            have hdec : decXY decL r m 0 = some (xs, ys, q) := by
              rw [HI.out.2.2.2.2.2 rfl, hjm, Nat.sub_self]
              simp [decXY]
            have htk := take_ref hdec
            rw [← HBR.out, HLZ.out] at htk
            obtain ⟨ps, hps⟩ : ∃ p, p = frs 0 0 xs := ⟨_, rfl⟩
            obtain ⟨qs, hqs⟩ : ∃ p, p = frs 0 0 ys := ⟨_, rfl⟩
            have HPS := Aside0.mk hps
            have HQS := Aside0.mk hqs
            have HPL := Aside0.mk (show ps.length = m by rw [hps, frs_length, HXM.out])
            have HQL := Aside0.mk (show qs.length = m by rw [hqs, frs_length, HYM.out])
            rw [← hps, ← hqs] at htk
            have HTK := Aside0.mk htk
            clear hgo hbad hlt hjm hdec hps hqs htk
            go_wp2_with (first
              | (go_at_call 40; ((with_reducible refine (reffrs_n Ax cx m xs ps _ HXM.out HPS.out (Kd.R_reads' (Sep.R HS.out.drop)).2.2 (Kd.R_reads' (Sep.R HS.out.drop)).2.1 (by have := HM2.out; omega)).mono ?_); rintro e w3 ⟨v, rfl, ho, hb⟩; clear hx2; obtain ⟨Ap, cp, e_⟩ := Kd.R_slice ho; rw [HPL.out] at e_; subst e_; obtain ⟨Fp, hs_⟩ := Sep.newrow (by repeat (first | (with_reducible first | exact HS.out | apply sep_alloc | apply sep_drewN | apply sep_drew) | exact HS.out)) hb (below_size (by repeat (first | (with_reducible first | exact HB.out | apply below_alloc | apply pw_below_drewN | apply below_drew1) | exact HB.out))) ho; have n0_ := Aside0.mk (below_step (by repeat (first | (with_reducible first | exact HB.out | apply below_alloc | apply pw_below_drewN | apply below_drew1) | exact HB.out)) hb); clear HB HS hb ho; have HB := n0_; have HS := Aside0.mk hs_; clear n0_ hs_))
              | (go_at_call 40; ((with_reducible refine (reffrs_n Ay cy m ys qs _ HYM.out HQS.out (Kd.R_reads' (Sep.R HS.out.drop)).2.2 (Kd.R_reads' (Sep.R HS.out.drop)).2.1 (by have := HM2.out; omega)).mono ?_); rintro e w4 ⟨v, rfl, ho, hb⟩; obtain ⟨Aq, cq, e_⟩ := Kd.R_slice ho; rw [HQL.out] at e_; subst e_; obtain ⟨Fq, hs_⟩ := Sep.newrow (by repeat (first | (with_reducible first | exact HS.out | apply sep_alloc | apply sep_drewN | apply sep_drew) | exact HS.out)) hb (below_size (by repeat (first | (with_reducible first | exact HB.out | apply below_alloc | apply pw_below_drewN | apply below_drew1) | exact HB.out))) ho; have n0_ := Aside0.mk (below_step (by repeat (first | (with_reducible first | exact HB.out | apply below_alloc | apply pw_below_drewN | apply below_drew1) | exact HB.out)) hb); clear HB HS hb ho; have HB := n0_; have HS := Aside0.mk hs_; clear n0_ hs_)))
            have n0_ := (HS.out.drop3.drop3.drop3).nilrow k52 52
            clear HS
            have HS := Aside0.mk n0_
            clear n0_
            go_loopg [12, 13] m (fun kq v12 v13 w' => ∃ (j : Nat) (O : List S52) (F : Nat → Prop), v13 = .int .i64 (j : Int) ∧ Aside0 (kq + j = m ∧ O = (zipP ps qs).take j) ∧ Aside0 (Sep w2.heap.size w' [row F k52 52 w2.heap.size v12 O, row Fq (Kd.int .i64) 3 w2.heap.size (.slice Aq m cq) qs, row Fp (Kd.int .i64) 3 w2.heap.size (.slice Ap m cp) ps]) ∧ Aside0 (Below w2.heap.size w2 w'))
            case atStart => exact ⟨0, [], _, rfl, ⟨by omega, rfl⟩, HS, HB⟩
            case round =>
              clear HS HB
              obtain ⟨j, O, F, rfl, HI, HS, HB⟩ := hrel
              obtain ⟨Ao, co, eo⟩ := Kd.R_slice (Sep.R HS.out)
              by_cases hlt : j < m
              · subst eo
                obtain ⟨k1, rfl⟩ : ∃ n, gk = n + 1 := ⟨gk - 1, by have := HI.out.1; omega⟩
                have d1b : decide ((j : Int) < (m : Int)) = true := decide_eq_true (by omega)
                have d1n : decide (j < m) = true := decide_eq_true hlt
                have hnx : wrap64 ((j : Int) + 1) = ((j + 1 : Nat) : Int) := by have := HM2.out; rw [w64 (by omega) (by omega)]; simp
                have HX := Aside0.mk hnx
                have HJ := Aside0.mk hlt
                obtain ⟨adq, eq_, hq0⟩ := Kd.at_int (Kd.R_reads' (Sep.R HS.out.p2)).2.2 (j : Int) (by omega) (by rw [HQL.out]; omega)
                obtain ⟨adp, ep_, hp0⟩ := Kd.at_int (Kd.R_reads' (Sep.R HS.out.p3)).2.2 (j : Int) (by omega) (by rw [HPL.out]; omega)
                subst eq_ ep_
                obtain ⟨x, hx⟩ : ∃ x, ps.getD j 0 = x := ⟨_, rfl⟩
                obtain ⟨y, hy⟩ : ∃ x, qs.getD j 0 = x := ⟨_, rfl⟩
                have HXE := Aside0.mk hx
                have HYE := Aside0.mk hy
                have c4 := eq_true hlt
                have c5 := eq_true (show (j : Int) < (m : Int) by omega)
                have c6 := eq_true (show 0 ≤ (j : Int) by omega)
                have HOL := Aside0.mk (show O.length + 1 ≤ 1025 by rw [HI.out.2, List.length_take]; have := HM2.out; omega)
                clear hq0 hp0 hx hy hnx hlt
                go_wp2
                refine start_ (n := 13) (S := fun w' => w'.cell? (adp.add j) = some (.int .i64 x) ∧ w'.cell? (adq.add j) = some (.int .i64 y)) (ds := []) #[false, false, false, false, false, false, false, false, false, false, false, false, false] (by kernel_rfl) rfl rfl ⟨Sep.celln (sep_drew HS.out.p3) j x HJ.out HPL.out HXE.out, Sep.celln (sep_drew HS.out.p2) j y HJ.out HQL.out HYE.out⟩ (fun hHeld => ?_)
                have n0_ := Aside0.mk (below_drew HB.out)
                have n1_ := Aside0.mk (sep_drew HS.out)
                clear HB HS
                have HB := n0_
                have HS := n1_
                clear n0_ n1_
                generalize (World.drew wr) = wd_ at HB HS hHeld ⊢
                refine pure_ (i := 0) (N := some 74) (v := ?_) (a' := ?_) #[true, false, false, false, false, false, false, false, false, false, false, false, false] rfl rfl (by kernel_rfl) (fun _ _ _ h => h) (Or.inl ⟨by rfl, ?_⟩) ?_ ?_
                rotate_left
                · intro w'
                  go_simp
                  with_reducible rfl
                rotate_left
                · simp only [Act.put, List.setIfInBounds_toArray, List.set_cons_zero, List.set_cons_succ, i64_w, i32_w]
                  rfl
                refine pure_ (i := 1) (N := some 75) (v := ?_) (a' := ?_) #[true, true, false, false, false, false, false, false, false, false, false, false, false] rfl rfl (by kernel_rfl) (fun _ _ _ h => h) (Or.inl ⟨by rfl, ?_⟩) ?_ ?_
                rotate_left
                · intro w'
                  go_simp
                  with_reducible rfl
                rotate_left
                · simp only [Act.put, List.setIfInBounds_toArray, List.set_cons_zero, List.set_cons_succ, i64_w, i32_w]
                  rfl
                refine pure_ (i := 2) (N := some 76) (v := ?_) (a' := ?_) #[true, true, true, false, false, false, false, false, false, false, false, false, false] rfl rfl (by kernel_rfl) (fun _ _ _ h => h) (Or.inl ⟨by rfl, ?_⟩) ?_ ?_
                rotate_left
                · intro w'
                  go_simp
                  with_reducible rfl
                rotate_left
                · simp only [Act.put, List.setIfInBounds_toArray, List.set_cons_zero, List.set_cons_succ, i64_w, i32_w]
                  rfl
                refine pure_ (i := 3) (N := some 77) (v := ?_) (a' := ?_) #[true, true, true, true, false, false, false, false, false, false, false, false, false] rfl rfl (by kernel_rfl) (fun _ _ _ h => h) (Or.inl ⟨by rfl, ?_⟩) ?_ ?_
                rotate_left
                · intro w'
                  go_simp
                  with_reducible rfl
                rotate_left
                · simp only [Act.put, List.setIfInBounds_toArray, List.set_cons_zero, List.set_cons_succ, i64_w, i32_w]
                  rfl
                refine pure_ (i := 5) (N := some 79) (v := ?_) (a' := ?_) #[true, true, true, true, false, true, false, false, false, false, false, false, false] rfl rfl (by kernel_rfl) (fun _ _ _ h => h) (Or.inl ⟨by rfl, ?_⟩) ?_ ?_
                rotate_left
                · intro w'
                  go_simp
                  with_reducible rfl
                rotate_left
                · simp only [Act.put, List.setIfInBounds_toArray, List.set_cons_zero, List.set_cons_succ, i64_w, i32_w]
                  rfl
                refine pure_ (i := 6) (N := some 80) (v := ?_) (a' := ?_) #[true, true, true, true, false, true, true, false, false, false, false, false, false] rfl rfl (by kernel_rfl) (fun _ _ _ h => h) (Or.inl ⟨by rfl, ?_⟩) ?_ ?_
                rotate_left
                · intro w'
                  go_simp
                  with_reducible rfl
                rotate_left
                · simp only [Act.put, List.setIfInBounds_toArray, List.set_cons_zero, List.set_cons_succ, i64_w, i32_w]
                  rfl
                refine pure_ (i := 7) (N := some 81) (v := ?_) (a' := ?_) #[true, true, true, true, false, true, true, true, false, false, false, false, false] rfl rfl (by kernel_rfl) (fun _ _ _ h => h) (Or.inl ⟨by rfl, ?_⟩) ?_ ?_
                rotate_left
                · intro w'
                  go_simp
                  with_reducible rfl
                rotate_left
                · simp only [Act.put, List.setIfInBounds_toArray, List.set_cons_zero, List.set_cons_succ, i64_w, i32_w]
                  rfl
                refine take_ (i := 4) (N := some 78) (v := ?_) (a' := ?_) #[true, true, true, true, true, true, true, true, false, false, false, false, false] rfl rfl (by kernel_rfl) (fun _ _ _ h => h) (Or.inl ⟨by rfl, ?_⟩) hHeld ?_ ?_
                rotate_left
                · rintro w' ⟨s0, s1⟩
                  go_simp
                  with_reducible rfl
                rotate_left
                · simp only [Act.put, List.setIfInBounds_toArray, List.set_cons_zero, List.set_cons_succ, i64_w, i32_w]
                  rfl
                refine take_ (i := 8) (N := some 82) (v := ?_) (a' := ?_) #[true, true, true, true, true, true, true, true, true, false, false, false, false] rfl rfl (by kernel_rfl) (fun _ _ _ h => h) (Or.inl ⟨by rfl, ?_⟩) hHeld ?_ ?_
                rotate_left
                · rintro w' ⟨s0, s1⟩
                  go_simp
                  with_reducible rfl
                rotate_left
                · simp only [Act.put, List.setIfInBounds_toArray, List.set_cons_zero, List.set_cons_succ, i64_w, i32_w]
                  rfl
                refine pure_ (i := 9) (N := some 83) (v := ?_) (a' := ?_) #[true, true, true, true, true, true, true, true, true, true, false, false, false] rfl rfl (by kernel_rfl) (fun _ _ _ h => h) (Or.inl ⟨by rfl, ?_⟩) ?_ ?_
                rotate_left
                · intro w'
                  go_simp
                  with_reducible rfl
                rotate_left
                · simp only [Act.put, List.setIfInBounds_toArray, List.set_cons_zero, List.set_cons_succ, i64_w, i32_w]
                  rfl
                refine one_ (i := 10) (N := some 84) #[true, true, true, true, true, true, true, true, true, true, true, false, false] rfl rfl (by kernel_rfl) (by decide) (fun K hK => ?_)
                refine value_ (w1 := ?_) (v := ?_) (by rfl) rfl ?_ ?_
                rotate_left 2
                · go_simp
                  constructor
                  · rfl
                  · rfl
                refine hK.out _ _ ⟨Sep.celln (sep_alloc HS.out.p3 _) j x HJ.out HPL.out HXE.out, Sep.celln (sep_alloc HS.out.p2 _) j y HJ.out HQL.out HYE.out⟩ (fun hHeld => ?_)
                clear hK K
                refine norm_ (a' := ?_) ?_ ?_
                rotate_left
                · show Act.put _ (some 84) _ = _
                  simp only [Act.put, List.setIfInBounds_toArray, List.set_cons_zero, List.set_cons_succ, i64_w, i32_w]
                  rfl
                refine one_ (i := 11) (N := some 85) #[true, true, true, true, true, true, true, true, true, true, true, true, false] rfl rfl (by kernel_rfl) (by decide) (fun K hK => ?_)
                refine wp_append_step k52 (w0 := w2) ?hw_ (.tmp 74) (.tmp 84) 44 52 (.agg #[.int .i64 0, .int .i64 0]) 16 ?ho_ ?ht_ ?hi_ ?hz_ ?h0_ ?hb_ ((⟨x, y⟩ : S52)) [.int .i64 x, .int .i64 y] (HS.out) ?hs_ ?hx_ ?hp_ ?HB_ ?hl_ ?_; (case hw_ => rfl); (case ho_ => rfl); (case ht_ => exact Try.underlying44); (case hi_ => exact info52); (case hz_ => rfl); (case h0_ => decide); (case hb_ => omega); (case hs_ => rfl); (case hx_ => rfl); (case hp_ => exact (k52_mkM _ _ _ (⟨x, y⟩ : S52))); (case HB_ => exact HB.out); (case hl_ => have := HOL.out; omega); intro v_ w_ F_ hs_ hb_; obtain ⟨O1, hy_⟩ : ∃ y_, y_ = O ++ [(⟨x, y⟩ : S52)] := ⟨_, rfl⟩; rw [← hy_] at hs_; have HO1 := Aside0.mk hy_; clear hy_ HB HS hHeld; have HB := Aside0.mk hb_; have HS := Aside0.mk hs_; clear hb_ hs_; obtain ⟨A_, c_, e_⟩ := Kd.R_slice (Sep.R HS.out); subst e_
                refine hK.out _ _ ⟨Sep.celln HS.out.p3 j x HJ.out HPL.out HXE.out, Sep.celln HS.out.p2 j y HJ.out HQL.out HYE.out⟩ (fun hHeld => ?_)
                clear hK K
                refine norm_ (a' := ?_) ?_ ?_
                rotate_left
                · show Act.put _ (some 85) _ = _
                  simp only [Act.put, List.setIfInBounds_toArray, List.set_cons_zero, List.set_cons_succ, i64_w, i32_w]
                  rfl
                refine pure_ (i := 12) (N := some 12) (v := ?_) (a' := ?_) #[true, true, true, true, true, true, true, true, true, true, true, true, true] rfl rfl (by kernel_rfl) (fun _ _ _ h => h) (Or.inl ⟨by rfl, ?_⟩) ?_ ?_
                rotate_left
                · intro w'
                  go_simp
                  with_reducible rfl
                rotate_left
                · simp only [Act.put, List.setIfInBounds_toArray, List.set_cons_zero, List.set_cons_succ, i64_w, i32_w]
                  rfl
                refine done_ (by kernel_rfl) ?_
                go_wp2
                go_roundg k1
                case measure => omega
                case rel => exact ⟨j + 1, O1, _, (by first | rfl | rw [HX.out]), ⟨by have := HI.out.1; omega, by rw [HO1.out, HI.out.2, zipP_take_succ _ _ _ (by rw [HPL.out]; exact HJ.out) (by rw [HQL.out]; exact HJ.out), HXE.out, HYE.out]⟩, HS, HB⟩
              · have d1b : decide ((j : Int) < (m : Int)) = false := decide_eq_false (by omega)
                have d1n : decide (j < m) = false := decide_eq_false hlt
                have HOE := Aside0.mk (show O = zipP ps qs by rw [HI.out.2, List.take_of_length_le (by rw [zipP_length _ _ (by rw [HPL.out, HQL.out]), HPL.out]; have := HI.out.1; omega)])
                have HOL := Aside0.mk (show O.length = m by rw [HOE.out, zipP_length _ _ (by rw [HPL.out, HQL.out]), HPL.out])
                rw [HOL.out] at eo
                subst eo
                obtain ⟨C, hC⟩ : ∃ a, (putR O).1 = a := ⟨_, rfl⟩
                obtain ⟨zc, hzc⟩ : ∃ a, (putR O).2 = a := ⟨_, rfl⟩
                have HCC := Aside0.mk hC
                have HZC := Aside0.mk hzc
                obtain ⟨sC, hsC⟩ : ∃ s, s = strOfNums C := ⟨_, rfl⟩
                obtain ⟨sB, hsB⟩ : ∃ s, s = strOfNums b := ⟨_, rfl⟩
                have HSC := Aside0.mk hsC
                have HSB := Aside0.mk hsB
                have hlz := HTK.out
                rw [← HOE.out] at hlz
                have hinj := str_inj (xs := C) (ys := b) (hC ▸ putR_byt O) HBY.out
                rw [← hsC, ← hsB] at hinj
                have hpr : putR O = (b, 0) ↔ zc = 0 ∧ sC = sB := by
                  rw [hinj, ← hC, ← hzc]
                  constructor
                  · intro h; rw [h]; exact ⟨rfl, rfl⟩
                  · rintro ⟨h1, h2⟩; rw [← h1, ← h2]
                have hcs : ((zc != 0) = true ∧ l = [] ∧ z = 6) ∨ ((zc != 0) = false ∧ (sC.toList == sB.toList) = false ∧ l = [] ∧ z = 6) ∨ ((zc != 0) = false ∧ (sC.toList == sB.toList) = true ∧ l = O ∧ z = 0) := by
                  by_cases h : putR O = (b, 0)
                  · rw [if_pos h] at hlz
                    injection hlz with h1 h2
                    exact .inr (.inr ⟨by rw [(hpr.1 h).1]; rfl, bytes_eq (hpr.1 h).2, h1, h2⟩)
                  · rw [if_neg h] at hlz
                    injection hlz with h1 h2
                    by_cases hz : zc = 0
                    · exact .inr (.inl ⟨by rw [hz]; rfl, bytes_ne fun e => h (hpr.2 ⟨hz, e⟩), h1, h2⟩)
                    · exact .inl ⟨bne_iff_ne.2 hz, h1, h2⟩
                have HTL := Aside0.mk HOL.out
                clear hlt hC hzc hsC hsB hlz hinj hpr
                rcases hcs with ⟨hne, hl1, hz1⟩ | ⟨hne, hst, hl1, hz1⟩ | ⟨hne, hst, hl1, hz1⟩
                all_goals (
                  have HL1 := Aside0.mk hl1
                  have HZ1 := Aside0.mk hz1
                  clear hl1 hz1
                  go_wp2_with (first
                    | ((with_reducible refine gate_dst (N := 88) rfl ?_); (try (refine gate_guard (by rfl) ?_; dsimp only)); refine goesL_ (some 88) rfl rfl Try.func31 (by kernel_rfl) rfl #[.slice Ao m co] rfl (by (try simp only [List.map_toArray, List.map_cons, List.map_nil]); first | done | rfl) ?_; (with_reducible refine (rput_n Ao co m O C zc _ HOL.out HCC.out HZC.out (Kd.R_reads' (Sep.R HS.out)).2.2 (Kd.R_reads' (Sep.R HS.out)).2.1 (by have := HM2.out; omega)).mono ?_); rintro e w5_ ⟨v, rfl, ho, hb⟩; refine ⟨_, rfl, ?_⟩; obtain ⟨Ac, cc, e_⟩ := Kd.R_slice ho; subst e_; obtain ⟨Fc, hs_⟩ := Sep.newrow (by repeat (first | (with_reducible first | exact HS.out | apply sep_alloc | apply sep_drewN | apply sep_drew) | exact HS.out)) hb (below_size (by repeat (first | (with_reducible first | exact HB.out | apply below_alloc | apply pw_below_drewN | apply below_drew1) | exact HB.out))) ho; have n0_ := Aside0.mk (below_step (by repeat (first | (with_reducible first | exact HB.out | apply below_alloc | apply pw_below_drewN | apply below_drew1) | exact HB.out)) hb); clear HB HS hb ho; have HB := n0_; have HS := Aside0.mk hs_; clear n0_ hs_; have hcv1 := own_string (P := Try.prog) Try.underlying24 Try.underlying5 Try.underlying9 (Kd.own_of_R (Sep.R HS.out)); rw [← HSC.out] at hcv1; have hcv2 := Kd.C_string (P := Try.prog) (c := c0) Try.underlying24 Try.underlying5 Try.underlying9 (Kd.C_below HR.out (below_step HBW.out HB.out)); rw [← HSB.out] at hcv2))
                  go_ret2
                  rw [HL1.out, HZ1.out])
                · exact ⟨none, 0, rfl, Kd.C_nil _ _, by simp, below_step HBW.out HB.out⟩
                · exact ⟨none, 0, rfl, Kd.C_nil _ _, by simp, below_step HBW.out HB.out⟩
                · have hr := Kd.R_reads' (Sep.R HS.out.drop)
                  rw [HTL.out] at hr ⊢
                  exact ⟨Ao, co, rfl, hr.2.2, hr.2.1, below_step HBW.out HB.out⟩
  · have HNO := Aside0.mk (show ∀ m r, m < 2 ^ 64 → b ≠ varint m ++ r from fun m r hm he => hex ⟨m, r, hm, he⟩)
    clear hex
    go_enter Try.func42, Try.ntmps42
    go_wp2_with (first
      | ((with_reducible refine gate_dst (N := 16) rfl ?_); (try (refine gate_guard (by rfl) ?_; dsimp only)); (refine wp_lit (Kd.int .u8) (w0 := w) ?hg_ (N := 16) ?hd_ 5 (([] : List Int)) [] ?hr_ ?hp_ (by repeat (first | (with_reducible first | exact HS.out | apply sep_alloc | apply sep_drewN | apply sep_drew) | exact HS.out)) (by repeat (first | (with_reducible first | exact HB.out | apply below_alloc | apply pw_below_drewN | apply below_drew1) | exact HB.out)) (by simp) ?_; (case hd_ => rfl); (case hg_ => rfl); (case hr_ => first | (go_simp; done) | (go_simp; rfl)); (case hp_ => exact (Reps.none _ _))); intro v_ w_ F_ hs_ hb_; clear HB HS; have HB := Aside0.mk hb_; have HS := Aside0.mk hs_; clear hs_ hb_; obtain ⟨A_, c_, e_⟩ := Kd.R_slice (Sep.R HS.out); subst e_; (skip))
      | ((with_reducible refine gate_builtin (b := .append) (xs := #[.tmp 16, .tmp 17]) rfl ?_); (refine wp_append_row (Kd.int .u8) (w0 := w) rfl (.tmp 16) (.tmp 17) 24 5 (.int .u8 0) 1 rfl Try.underlying24 info5 rfl (by decide) (by omega) b _ _ _ HS.out (Kd.C_below HR.out HB.out) (fun _ _ h => h) (by repeat (first | (with_reducible first | exact HB.out | apply below_alloc | apply pw_below_drewN | apply below_drew1) | exact HB.out)) (by have := HL.out; simp; omega) rfl rfl ?_); (intro v_ w_ F_ hs_ hb_); (obtain ⟨O0, hy_⟩ : ∃ y_, y_ = ([] : List Int) ++ b := ⟨_, rfl⟩; rw [← hy_] at hs_; have HO0 := Aside0.mk hy_; clear hy_ HB HS; have HB := Aside0.mk hb_; have HS := Aside0.mk hs_; clear hs_ hb_; obtain ⟨A_, c_, e_⟩ := Kd.R_slice (Sep.R HS.out); subst e_); (have ho0 : b = O0 := (by rw [HO0.out]; rfl); clear HO0; subst ho0))
      | ((with_reducible refine gate_dst (N := 20) rfl ?_); (try (refine gate_guard (by rfl) ?_; dsimp only)); refine box_event ?hg (N := 20) ?hd (cs := #[.slice A_ b.length c_, .bool false]) (t := 104) ?hr ?_; (case hd => rfl); (case hg => rfl); (case hr => first | (go_simp; done) | (go_simp; rfl)); intro g hg w5 hbox hb; have n0_ := Aside0.mk (below_step (by repeat (first | (with_reducible first | exact HB.out | apply below_alloc | apply pw_below_drewN | apply below_drew1) | exact HB.out)) hb); have n1_ := Aside0.mk (Sep.newbox (by repeat (first | (with_reducible first | exact HS.out | apply sep_alloc | apply sep_drewN | apply sep_drew) | exact HS.out)) hb (Nat.le_of_eq hg.symm) (below_size (by repeat (first | (with_reducible first | exact HB.out | apply below_alloc | apply pw_below_drewN | apply below_drew1) | exact HB.out))) hbox); clear HB HS; have HB := n0_; have HS := n1_; clear n0_ n1_ hb hbox hg)
      | (go_at_call 79; ((with_reducible refine (rnum_no g A_ c_ b HNO.out false w _ HB.out HS.out.own (Kd.R_reads' (Sep.R HS.out.drop)).2.2 (Kd.R_reads' (Sep.R HS.out.drop)).2.1 HBY.out HL.out).mono ?_); rintro e w2 ⟨rfl, ht⟩; obtain ⟨F_, hs_⟩ := Turned.sep ht (HS.out) rfl; have n0_ := Aside0.mk (Turned.below ht); clear HB HS ht; have HB := n0_; have HS := Aside0.mk hs_; clear n0_ hs_; have hc1 := Sep.c21 HS.out)))
    go_ret2
    have hl := HLZ.out
    rw [take_none HNO.out] at hl
    injection hl with h1 h2
    subst h1 h2
    exact ⟨none, 0, rfl, Kd.C_nil _ _, by simp, HB.out⟩
end Go.Proofs.Ythkpnnbjcendcaa.Sc
