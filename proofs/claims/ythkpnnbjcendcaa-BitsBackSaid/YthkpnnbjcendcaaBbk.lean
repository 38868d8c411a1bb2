/- BitsBack, walked: what was put is there, in its place, and nothing but 0s behind it. -/
import Derived.Test.YthkpnnbjcendcaaFw
import Derived.Test.YthkpnnbjcendcaaPbk
import Derived.Test.YthkpnnbjcendcaaBst
set_option linter.unusedVariables false
set_option linter.unusedSimpArgs false
open Go.RowKit Go.Proofs.Ythkpnnbjcendcaa.X Go.Proofs.Ythkpnnbjcendcaa.Pl Go.Proofs.Ythkpnnbjcendcaa.Sp Go.Proofs.Ythkpnnbjcendcaa.Sc Go.Proofs.Ythkpnnbjcendcaa.Pure Go.Proofs.YthkpnnbjcendcaaW.PrintWords Go.Proofs.YthkpnnbjcendcaaW.PrintLast Go.Proofs.YthkpnnbjcendcaaW.PrintMore
namespace Go.Proofs.Ythkpnnbjcendcaa.Sc
/-- The bits of what was put. -/
def flat (l : List S34) : List Bool := l.flatMap fun p => nb p.f0.toNat p.f1.toNat
/-- What may be put. -/
def good (p : S34) : Prop := 0 ≤ p.f1 ∧ p.f1 ≤ 64 ∧ 0 ≤ p.f0 ∧ p.f0 < 2 ^ p.f1.toNat
theorem flat_snoc (l : List S34) (p : S34) : flat (l ++ [p]) = flat l ++ nb p.f0.toNat p.f1.toNat := by simp [flat]
theorem flat_len (l : List S34) (hg : ∀ p ∈ l, good p) (j : Nat) (hj : j < l.length) : (flat (l.take (j + 1))).length = (flat (l.take j)).length + (rd_T34 l (j : Int)).f1.toNat := by
  rw [List.take_succ_eq_append_getElem hj, flat_snoc, List.length_append, nb_length]
  unfold rd_T34
  rw [Int.toNat_natCast, getD_lt _ _ _ hj]
theorem flat_le (l : List S34) (j : Nat) : (flat (l.take j)).length ≤ (flat l).length := by
  have : flat l = flat (l.take j) ++ flat (l.drop j) := by
    unfold flat
    rw [← List.flatMap_append, List.take_append_drop]
  rw [this, List.length_append]
  omega
/-- What is told of a number's place. -/
theorem there (l : List S34) (hg : ∀ p ∈ l, good p) (hm : (flat l).length ≤ 262144) (j : Nat) (hj : j < l.length) :
    atR (pack (flat l)) ((flat (l.take j)).length : Int) (rd_T34 l (j : Int)).f1 = ((rd_T34 l (j : Int)).f0, 0) := by
  have hp := hg _ (rd34_mem hj)
  have hlen := flat_len l hg j hj
  have hle := flat_le l (j + 1)
  have hrd : rd_T34 l (j : Int) = l[j] := by
    unfold rd_T34
    rw [Int.toNat_natCast, getD_lt _ _ _ hj]
  obtain ⟨h1, h2, h3, h4⟩ := hp
  unfold atR
  rw [if_neg (by omega), if_neg (by rw [pack_length]; omega), Int.toNat_natCast]
  have e : flat l = flat (l.take j) ++ nb (rd_T34 l (j : Int)).f0.toNat (rd_T34 l (j : Int)).f1.toNat ++ flat (l.drop (j + 1)) := by
    rw [← flat_snoc, hrd, ← List.take_succ_eq_append_getElem hj]
    unfold flat
    rw [← List.flatMap_append, List.take_append_drop]
  rw [e, val_pack]
  · rw [Int.toNat_of_nonneg h3]
  · have : ((rd_T34 l (j : Int)).f0.toNat : Int) < 2 ^ (rd_T34 l (j : Int)).f1.toNat := by rw [Int.toNat_of_nonneg h3]; exact h4
    exact_mod_cast this
theorem put_good {m : Nat} {p : S34} (h0 : 0 ≤ p.f0) (h : putC m p.f0 p.f1 = 0) : good p := ⟨(putC_0 h).1, (putC_0 h).2.1, h0, (putC_0 h).2.2.1⟩
end Go.Proofs.Ythkpnnbjcendcaa.Sc
namespace Go.Proofs.Ythkpnnbjcendcaa.X
def marigraphlaw02_BitsBack.Fit (l : List S34) : Prop := l.length * 16 ≤ 140737488351232 ∧ (∀ y ∈ l, (Lit.int .u64 y.f0).wf = true ∧ (Lit.int .i64 y.f1).wf = true)
open Classical in
noncomputable def marigraphlaw02_BitsBack.f (l : List S34) : Option Bool := if marigraphlaw02_BitsBack.Fit l then some true else none
set_option maxHeartbeats 8000000 in
set_option maxRecDepth 100000 in
theorem marigraphlaw02_BitsBack.calls (A0 : Option Addr) (c0 : Nat) (l0 : List S34) (r : Bool) (w : World) (hr0 : Kd.C k34 w A0 l0.length l0) (hc0 : l0.length ≤ c0) (h : marigraphlaw02_BitsBack.f l0 = some r) :
    Calls Try.prog 5 #[.slice A0 l0.length c0] w fun e w' => e = .returned (.bool r) ∧ Below w.heap.size w w' := by
  unfold marigraphlaw02_BitsBack.f at h
  split at h
  case isFalse => cases h
  case isTrue hfit =>
  obtain rfl := Option.some.inj h
  obtain ⟨hlen, hwf⟩ := hfit
  obtain ⟨x0, hx0⟩ : ∃ x, x = l0.take 4200 := ⟨_, rfl⟩
  have HR0 := Aside0.mk (show Kd.C k34 w A0 x0.length x0 from hx0 ▸ C_take' hr0 4200)
  have HX := Aside0.mk hx0
  have HC := Aside0.mk hc0
  have HL := Aside0.mk (show x0.length ≤ 4200 by rw [hx0, List.length_take]; omega)
  have HW := Aside0.mk (show ∀ y ∈ x0, (Lit.int .u64 y.f0).wf = true ∧ (Lit.int .i64 y.f1).wf = true from fun y hy => hwf y (List.mem_of_mem_take (hx0 ▸ hy)))
  have HB := Aside0.mk (Below.refl w.heap.size w)
  have HS := Aside0.mk (Sep.nil w.heap.size w)
  clear h hr0 hc0 hlen hwf hx0
  go_enter Try.func5, Try.ntmps5
  go_wp2_with (first
    | ((with_reducible refine gate_dst (N := 14) rfl ?_); (try (refine gate_guard (by rfl) ?_; dsimp only)); refine goesL_ (some 14) rfl rfl Try.func20 (by kernel_rfl) rfl #[] rfl (by (try simp only [List.map_toArray, List.map_cons, List.map_nil]); first | done | rfl) ?_; (with_reducible refine (marigraphlaw02_shown.calls true _ rfl).mono ?_); rintro e w2 ⟨rfl, hb⟩; refine ⟨_, rfl, ?_⟩; have n0_ := Aside0.mk (below_step (by repeat (first | (with_reducible first | exact HB.out | apply below_alloc | apply pw_below_drewN | apply below_drew1) | exact HB.out)) hb); have n1_ := Aside0.mk (Sep.below (by repeat (first | (with_reducible first | exact HS.out | apply sep_alloc | apply sep_drewN | apply sep_drew) | exact HS.out)) hb); clear HB HS; have HB := n0_; have HS := n1_; clear n0_ n1_ hb)
    | ((with_reducible refine gate_dst (N := 4) rfl ?_); (try (refine gate_guard (by rfl) ?_; dsimp only)); refine box_event ?hg (N := 4) ?hd (cs := #[.slice none 0 0, .int .i64 0]) (t := 26) ?hr ?_; (case hd => rfl); (case hg => rfl); (case hr => first | (go_simp; done) | (go_simp; rfl)); intro g hg w3 hbox hb; obtain ⟨F0, hs0⟩ := Sep.newbits (by repeat (first | (with_reducible first | exact HS.out | apply sep_alloc | apply sep_drewN | apply sep_drew) | exact HS.out)) hb (Nat.le_of_eq hg.symm) (below_size (by repeat (first | (with_reducible first | exact HB.out | apply below_alloc | apply pw_below_drewN | apply below_drew1) | exact HB.out))) hbox; have n0_ := Aside0.mk (below_step (by repeat (first | (with_reducible first | exact HB.out | apply below_alloc | apply pw_below_drewN | apply below_drew1) | exact HB.out)) hb); clear HB HS hg hbox hb; have HB := n0_; have HS := Aside0.mk hs0; clear n0_ hs0)
    | ((with_reducible refine gate_dst (N := 16) rfl ?_); (try (refine gate_guard (by rfl) ?_; dsimp only)); refine goesL_ (some 16) rfl rfl Try.func21 (by kernel_rfl) rfl #[.slice A0 l0.length c0] rfl (by (try simp only [List.map_toArray, List.map_cons, List.map_nil]); first | done | rfl) ?_; (with_reducible refine (few02_calls A0 c0 l0 _ HC.out).mono ?_); rintro e w4 ⟨rfl, hb⟩; refine ⟨_, rfl, ?_⟩; rw [← HX.out]; have n0_ := Aside0.mk (below_step (by repeat (first | (with_reducible first | exact HB.out | apply below_alloc | apply pw_below_drewN | apply below_drew1) | exact HB.out)) hb); have n1_ := Aside0.mk (Sep.below (by repeat (first | (with_reducible first | exact HS.out | apply sep_alloc | apply sep_drewN | apply sep_drew) | exact HS.out)) hb); clear HB HS; have HB := n0_; have HS := n1_; clear n0_ n1_ hb))
  go_loopg [5, 18] x0.length (fun kq v5 v18 w' => ∃ (j : Nat) (F F5 : Nat → Prop) (ins : List S34), v18 = .int .i64 (j : Int) ∧ Aside0 (kq + j = x0.length) ∧ Aside0 (ins.length ≤ j ∧ ∀ p ∈ ins, good p) ∧ Aside0 (Sep w.heap.size w' [row F5 k34 34 w.heap.size v5 ins, bitsR w.heap.size g (flat ins) F]) ∧ Aside0 (Below w.heap.size w w'))
  case atStart => exact ⟨0, F0, _, [], rfl, ⟨rfl⟩, ⟨Nat.le_refl _, fun p hp => by cases hp⟩, ⟨HS.out.nilrow k34 34⟩, HB⟩
  case round =>
    clear HS HB
    obtain ⟨j, F, F5, ins, rfl, HJ, HG, HS, HB⟩ := hrel
    by_cases hlt : j < x0.length
    · obtain ⟨k1, rfl⟩ : ∃ m, gk = m + 1 := ⟨gk - 1, by have := HJ.out; omega⟩
      have c1b : decide ((j : Int) < (x0.length : Int)) = true := decide_eq_true (by omega)
      have c1n : decide (j < x0.length) = true := decide_eq_true hlt
      have c2 : 0 ≤ (j : Int) := by omega
      have hnx : wrap64 ((j : Int) + 1) = ((j + 1 : Nat) : Int) := by rw [w64 (by have := HL.out; omega) (by have := HL.out; omega)]; simp
      obtain ⟨ad, e1, hx0, hx1⟩ := at_T34 HR0.out (j : Int) c2 (by omega)
      cases e1
      rw [Int.toNat_natCast] at hx0 hx1
      replace hx0 := (HB.out.cell (World.block_lt_of_cell? w _ hx0)).trans hx0
      replace hx1 := (HB.out.cell (World.block_lt_of_cell? w _ hx1)).trans hx1
      obtain ⟨hn, hwd⟩ := wf34 (HW.out _ (rd34_mem hlt))
      have HN1 := Aside0.mk hn
      have HD1 := Aside0.mk hwd
      have HX1 := Aside0.mk hnx
      have c4 := eq_true hlt
      have c5 := eq_true (show (j : Int) < (x0.length : Int) by omega)
      have c6 := eq_true c2
      clear hn hwd hnx hlt c2
      obtain ⟨A_, c_, e_⟩ := Kd.R_slice (Sep.R HS.out)
      subst e_
      by_cases c3 : putC (flat ins).length (rd_T34 x0 j).f0 (rd_T34 x0 j).f1 = 0
      · have c3b : (putC (flat ins).length (rd_T34 x0 j).f0 (rd_T34 x0 j).f1 == 0) = true := by simpa using c3
        have hpl : putL (flat ins) (rd_T34 x0 j).f0 (rd_T34 x0 j).f1 = flat (ins ++ [rd_T34 x0 j]) := by unfold putL; rw [if_pos c3, flat_snoc]
        have HPL := Aside0.mk hpl
        have HGD := Aside0.mk (put_good HN1.out.1 c3)
        clear c3 hpl
        go_wp2_with (first
          | ((with_reducible refine gate_dst (N := 7) rfl ?_); (try (refine gate_guard (by rfl) ?_; dsimp only)); refine box_event ?hg (N := 7) ?hd (cs := #[.int .u64 0, .int .i64 0]) (t := 34) ?hr ?_; (case hd => rfl); (case hg => rfl); (case hr => first | (go_simp; done) | (go_simp; rfl)); intro gq hg w5 hbox hb; have n0_ := Aside0.mk (below_step (by repeat (first | (with_reducible first | exact HB.out | apply below_alloc | apply pw_below_drewN | apply below_drew1) | exact HB.out)) hb); have n1_ := Aside0.mk (Sep.newbox (by repeat (first | (with_reducible first | exact HS.out | apply sep_alloc | apply sep_drewN | apply sep_drew) | exact HS.out)) hb (Nat.le_of_eq hg.symm) (below_size (by repeat (first | (with_reducible first | exact HB.out | apply below_alloc | apply pw_below_drewN | apply below_drew1) | exact HB.out))) hbox); clear HB HS; have HB := n0_; have HS := n1_; clear n0_ n1_ hb hbox hg; have hc0 := Sep.c20 HS.out; have hc1 := Sep.c21 HS.out; have hf0 := Sep.free HS.out 0; have hf1 := Sep.free HS.out 1)
          | (go_at_call 22; have hS2 := Aside0.mk (Sep.p3 ((HS.out.s20 (.int .u64 (rd_T34 x0 j).f0)).s21 (.int .i64 (rd_T34 x0 j).f1))); (with_reducible refine (put_calls g F (flat ins) _ _ w _ (below_set (below_set HB.out HS.out.ge (j := 0) (v := .int .u64 (rd_T34 x0 j).f0)) HS.out.ge (j := 1) (v := .int .i64 (rd_T34 x0 j).f1)) hS2.out.own HN1.out HD1.out).mono ?_); rintro e w6 ⟨rfl, ht⟩; obtain ⟨F_, hs_⟩ := Turned.sep ht (hS2.out) rfl; have n0_ := Aside0.mk (Turned.below ht); clear HB HS ht; have HB := n0_; have HS := Aside0.mk hs_; clear n0_ hs_; clear hS2 hc0 hc1 hf0 hf1; have hc0 := Sep.c20 HS.out.p2; have hc1 := Sep.c21 HS.out.p2)
          | ((with_reducible refine gate_builtin (b := .append) (xs := #[.tmp 28, .tmp 30]) rfl ?_); go_loud (at_builtin); go_loud (refine wp_append k34 (w0 := w) rfl (.tmp 28) (.tmp 30) 22 34 (.agg #[.int .u64 0, .int .i64 0]) 16 rfl Try.underlying22 info34 rfl (by decide) (by omega) (rd_T34 x0 j) [.int .u64 (rd_T34 x0 j).f0, .int .i64 (rd_T34 x0 j).f1] HS.out.p3 rfl rfl (k34_mkM _ _ _ (rd_T34 x0 j)) (by repeat (first | (with_reducible first | exact HB.out | apply below_alloc | apply pw_below_drewN | apply below_drew1) | exact HB.out)) (by have := HG.out.1; have := HL.out; have := HJ.out; omega) ?_); go_loud (intro v_ w_ F_ hs_ hb_); go_loud (obtain ⟨ins1, hy_⟩ : ∃ y_, y_ = ins ++ [rd_T34 x0 j] := ⟨_, rfl⟩; rw [← hy_] at hs_; have Hins1 := Aside0.mk hy_; clear hy_ HB HS; have HB := Aside0.mk hb_; have HS := Aside0.mk hs_; clear hs_ hb_; obtain ⟨A_, c_, e_⟩ := Kd.R_slice (Sep.R HS.out); subst e_); go_loud (clear hc0 hc1)))
        rw [HPL.out, ← Hins1.out] at HS
        go_roundg k1
        case measure => omega
        case rel => exact ⟨j + 1, _, _, ins1, by rw [HX1.out], ⟨by have := HJ.out; omega⟩, ⟨by rw [Hins1.out, List.length_append, List.length_singleton]; have := HG.out.1; omega, fun p hp => by rw [Hins1.out] at hp; rcases List.mem_append.1 hp with hp | hp; exact HG.out.2 p hp; exact List.mem_singleton.1 hp ▸ HGD.out⟩, ⟨HS.out.drop3⟩, HB⟩
      · have c3b : (putC (flat ins).length (rd_T34 x0 j).f0 (rd_T34 x0 j).f1 == 0) = false := by simpa using c3
        have hpl : putL (flat ins) (rd_T34 x0 j).f0 (rd_T34 x0 j).f1 = flat ins := by unfold putL; rw [if_neg c3]
        have HPL := Aside0.mk hpl
        clear c3 hpl
        go_wp2_with (first
          | ((with_reducible refine gate_dst (N := 7) rfl ?_); (try (refine gate_guard (by rfl) ?_; dsimp only)); refine box_event ?hg (N := 7) ?hd (cs := #[.int .u64 0, .int .i64 0]) (t := 34) ?hr ?_; (case hd => rfl); (case hg => rfl); (case hr => first | (go_simp; done) | (go_simp; rfl)); intro gq hg w5 hbox hb; have n0_ := Aside0.mk (below_step (by repeat (first | (with_reducible first | exact HB.out | apply below_alloc | apply pw_below_drewN | apply below_drew1) | exact HB.out)) hb); have n1_ := Aside0.mk (Sep.newbox (by repeat (first | (with_reducible first | exact HS.out | apply sep_alloc | apply sep_drewN | apply sep_drew) | exact HS.out)) hb (Nat.le_of_eq hg.symm) (below_size (by repeat (first | (with_reducible first | exact HB.out | apply below_alloc | apply pw_below_drewN | apply below_drew1) | exact HB.out))) hbox); clear HB HS; have HB := n0_; have HS := n1_; clear n0_ n1_ hb hbox hg; have hc0 := Sep.c20 HS.out; have hc1 := Sep.c21 HS.out; have hf0 := Sep.free HS.out 0; have hf1 := Sep.free HS.out 1)
          | (go_at_call 22; have hS2 := Aside0.mk (Sep.p3 ((HS.out.s20 (.int .u64 (rd_T34 x0 j).f0)).s21 (.int .i64 (rd_T34 x0 j).f1))); (with_reducible refine (put_calls g F (flat ins) _ _ w _ (below_set (below_set HB.out HS.out.ge (j := 0) (v := .int .u64 (rd_T34 x0 j).f0)) HS.out.ge (j := 1) (v := .int .i64 (rd_T34 x0 j).f1)) hS2.out.own HN1.out HD1.out).mono ?_); rintro e w6 ⟨rfl, ht⟩; obtain ⟨F_, hs_⟩ := Turned.sep ht (hS2.out) rfl; have n0_ := Aside0.mk (Turned.below ht); clear HB HS ht; have HB := n0_; have HS := Aside0.mk hs_; clear n0_ hs_; clear hS2 hc0 hc1 hf0 hf1))
        rw [HPL.out] at HS
        go_roundg k1
        case measure => omega
        case rel => exact ⟨j + 1, _, _, ins, by rw [HX1.out], ⟨by have := HJ.out; omega⟩, ⟨by have := HG.out.1; omega, HG.out.2⟩, ⟨HS.out.p3.drop3⟩, HB⟩
    · have c1b : decide ((j : Int) < (x0.length : Int)) = false := decide_eq_false (by omega)
      have c1n : decide (j < x0.length) = false := decide_eq_false hlt
      have HM := Aside0.mk (bitsR_le HS.out.drop.own)
      clear hlt
      obtain ⟨A5, c5, e_⟩ := Kd.R_slice (Sep.R HS.out)
      subst e_
      go_wp2_with (first
        | ((with_reducible refine gate_dst (N := 33) rfl ?_); (try (refine gate_guard (by rfl) ?_; dsimp only)); refine goesL_ (some 33) rfl rfl Try.func25 (by kernel_rfl) rfl #[.pointer (some ⟨g, 0, none⟩)] rfl (by (try simp only [List.map_toArray, List.map_cons, List.map_nil]); first | done | rfl) ?_; (with_reducible refine (bytes_calls w.heap.size g F (flat ins) _ HS.out.drop.own).mono ?_); rintro e w7 ⟨v, rfl, ho, hb⟩; refine ⟨_, rfl, ?_⟩; obtain ⟨A3, c3, e_⟩ := Kd.R_slice ho; subst e_; obtain ⟨F3, hs_⟩ := Sep.newrow (by repeat (first | (with_reducible first | exact HS.out | apply sep_alloc | apply sep_drewN | apply sep_drew) | exact HS.out)) hb (below_size (by repeat (first | (with_reducible first | exact HB.out | apply below_alloc | apply pw_below_drewN | apply below_drew1) | exact HB.out))) ho; have n0_ := Aside0.mk (below_step (by repeat (first | (with_reducible first | exact HB.out | apply below_alloc | apply pw_below_drewN | apply below_drew1) | exact HB.out)) hb); clear HB HS hb ho; have HB := n0_; have HS := Aside0.mk hs_; clear n0_ hs_))
      go_loopg [9, 36] ins.length (fun kq v9 v36 w' => ∃ (i : Nat), v9 = .int .i64 ((flat (ins.take i)).length : Int) ∧ v36 = .int .i64 (i : Int) ∧ Aside0 (kq + i = ins.length) ∧ Aside0 (Sep w.heap.size w' [row F3 (Kd.int .u8) 5 w.heap.size (.slice A3 (pack (flat ins)).length c3) (pack (flat ins)), row F5 k34 34 w.heap.size (.slice A5 ins.length c5) ins, bitsR w.heap.size g (flat ins) F]) ∧ Aside0 (Below w.heap.size w w'))
      case atStart => exact ⟨0, rfl, rfl, ⟨rfl⟩, HS, HB⟩
      case round =>
        clear HS HB
        obtain ⟨i, rfl, rfl, HI, HS, HB⟩ := hrel
        by_cases hlt : i < ins.length
        · obtain ⟨k1, rfl⟩ : ∃ m, gk = m + 1 := ⟨gk - 1, by have := HI.out; omega⟩
          have c1b : decide ((i : Int) < (ins.length : Int)) = true := decide_eq_true (by omega)
          have c1n : decide (i < ins.length) = true := decide_eq_true hlt
          have c2 : 0 ≤ (i : Int) := by omega
          have hil : ins.length ≤ 4200 := by have := HG.out.1; have := HL.out; have := HJ.out; omega
          have hnx : wrap64 ((i : Int) + 1) = ((i + 1 : Nat) : Int) := by rw [w64 (by omega) (by omega)]; simp
          obtain ⟨ad, e1, hx0, hx1⟩ := at_T34 (Kd.R_reads' (Sep.R HS.out.p2)).2.2 (i : Int) c2 (by omega)
          cases e1
          rw [Int.toNat_natCast] at hx0 hx1
          have hth := there ins HG.out.2 HM.out i hlt
          have hgd := HG.out.2 _ (rd34_mem hlt)
          have hfl := flat_len ins HG.out.2 i hlt
          have hle := flat_le ins (i + 1)
          have hmm := HM.out
          have hat : wrap64 (((flat (ins.take i)).length : Int) + (rd_T34 ins (i : Int)).f1) = ((flat (ins.take (i + 1))).length : Int) := by
            rw [hfl]
            have := hgd.1
            have := hgd.2.1
            rw [w64 (by omega) (by omega)]
            omega
          have HTH := Aside0.mk hth
          have HWD := Aside0.mk (show -9223372036854775808 ≤ (rd_T34 ins (i : Int)).f1 ∧ (rd_T34 ins (i : Int)).f1 ≤ 9223372036854775807 by have := hgd.1; have := hgd.2.1; omega)
          have HAT := Aside0.mk hat
          have HX1 := Aside0.mk hnx
          have HPL := Aside0.mk (show (pack (flat ins)).length < 1000000 by rw [pack_length]; omega)
          have c4 := eq_true hlt
          have c5 := eq_true (show (i : Int) < (ins.length : Int) by omega)
          have c6 := eq_true c2
          clear hth hgd hfl hle hmm hat hnx hlt c2 hil
          go_wp2_with (first
            | ((with_reducible refine gate_dst (N := 11) rfl ?_); (try (refine gate_guard (by rfl) ?_; dsimp only)); refine box_event ?hg (N := 11) ?hd (cs := #[.int .u64 0, .int .i64 0]) (t := 34) ?hr ?_; (case hd => rfl); (case hg => rfl); (case hr => first | (go_simp; done) | (go_simp; rfl)); intro gq hg w8 hbox hb; have n0_ := Aside0.mk (below_step (by repeat (first | (with_reducible first | exact HB.out | apply below_alloc | apply pw_below_drewN | apply below_drew1) | exact HB.out)) hb); have n1_ := Aside0.mk (Sep.newbox (by repeat (first | (with_reducible first | exact HS.out | apply sep_alloc | apply sep_drewN | apply sep_drew) | exact HS.out)) hb (Nat.le_of_eq hg.symm) (below_size (by repeat (first | (with_reducible first | exact HB.out | apply below_alloc | apply pw_below_drewN | apply below_drew1) | exact HB.out))) hbox); clear HB HS; have HB := n0_; have HS := n1_; clear n0_ n1_ hb hbox hg; have hc0 := Sep.c20 HS.out; have hc1 := Sep.c21 HS.out; have hf0 := Sep.free HS.out 0; have hf1 := Sep.free HS.out 1)
            | (go_at_call 27; have hS2 := Aside0.mk ((HS.out.s20 (.int .u64 (rd_T34 ins i).f0)).s21 (.int .i64 (rd_T34 ins i).f1)); (with_reducible refine (at_calls_eq A3 c3 (pack (flat ins)) _ _ _ _ _ (Kd.R_reads' (Sep.R hS2.out.p2)).2.2 (Kd.R_reads' (Sep.R hS2.out.p2)).2.1 (byt_pack _) HPL.out HWD.out HTH.out).mono ?_); rintro e w9 ⟨rfl, hb⟩; have n0_ := Aside0.mk (below_step (below_set (below_set HB.out HS.out.ge (j := 0) (v := .int .u64 (rd_T34 ins i).f0)) HS.out.ge (j := 1) (v := .int .i64 (rd_T34 ins i).f1)) hb); have n1_ := Aside0.mk (Sep.below hS2.out hb); clear HB HS hS2 hb hc0 hc1 hf0 hf1; have HB := n0_; have HS := n1_; clear n0_ n1_; have hc0 := Sep.c20 HS.out; have hc1 := Sep.c21 HS.out))
          go_roundg k1
          case measure => omega
          case rel => exact ⟨i + 1, by rw [HAT.out], by rw [HX1.out], ⟨by have := HI.out; omega⟩, ⟨HS.out.drop⟩, HB⟩
        · have c1b : decide ((i : Int) < (ins.length : Int)) = false := decide_eq_false (by omega)
          have c1n : decide (i < ins.length) = false := decide_eq_false hlt
          have e0 : ins.take i = ins := List.take_of_length_le (by omega)
          have hm := HM.out
          have hq : (((pack (flat ins)).length : Int) == wrap64 (Int.tdiv (wrap64 (((flat ins).length : Int) + 7)) 8)) = true := by
            rw [pack_length, w64 (x := ((flat ins).length : Int) + 7) (by omega) (by omega), tdiv_pos (by omega), w64 (by omega) (by omega)]
            simp
          have HPL := Aside0.mk (show (pack (flat ins)).length < 1000000 by rw [pack_length]; omega)
          obtain ⟨K, hK⟩ := clear_ev (byt_pack (flat ins)) HPL.out ((flat ins).length : Int)
          rw [clr_pack] at hK
          have HCL := Aside0.mk (hK K (Nat.le_refl _))
          rw [e0]
          clear hlt e0 hm hK
          go_wp2_with (first
            | ((with_reducible refine gate_dst (N := 64) rfl ?_); (try (refine gate_guard (by rfl) ?_; dsimp only)); refine goesL_ (some 64) rfl rfl Try.func24 (by kernel_rfl) rfl #[.pointer (some ⟨g, 0, none⟩)] rfl (by (try simp only [List.map_toArray, List.map_cons, List.map_nil]); first | done | rfl) ?_; (with_reducible refine (len_calls w.heap.size g F (flat ins) _ HS.out.p3.own).mono ?_); rintro e wa ⟨rfl, hb⟩; refine ⟨_, rfl, ?_⟩; have n0_ := Aside0.mk (below_step (by repeat (first | (with_reducible first | exact HB.out | apply below_alloc | apply pw_below_drewN | apply below_drew1) | exact HB.out)) hb); have n1_ := Aside0.mk (Sep.below (by repeat (first | (with_reducible first | exact HS.out | apply sep_alloc | apply sep_drewN | apply sep_drew) | exact HS.out)) hb); clear HB HS; have HB := n0_; have HS := n1_; clear n0_ n1_ hb)
            | ((with_reducible refine gate_dst (N := 78) rfl ?_); (try (refine gate_guard (by rfl) ?_; dsimp only)); refine goesL_ (some 78) rfl rfl Try.func28 (by kernel_rfl) rfl #[.slice A3 (pack (flat ins)).length c3, .int .i64 ((flat ins).length : Int)] rfl (by (try simp only [List.map_toArray, List.map_cons, List.map_nil]); first | done | rfl) ?_; (with_reducible refine (bits_Clear.calls K A3 c3 (pack (flat ins)) _ true _ (Kd.R_reads' (Sep.R HS.out)).2.2 (Kd.R_reads' (Sep.R HS.out)).2.1 HCL.out).mono ?_); rintro e wb ⟨rfl, hb⟩; refine ⟨_, rfl, ?_⟩; have n0_ := Aside0.mk (below_step (by repeat (first | (with_reducible first | exact HB.out | apply below_alloc | apply pw_below_drewN | apply below_drew1) | exact HB.out)) hb); have n1_ := Aside0.mk (Sep.below (by repeat (first | (with_reducible first | exact HS.out | apply sep_alloc | apply sep_drewN | apply sep_drew) | exact HS.out)) hb); clear HB HS; have HB := n0_; have HS := n1_; clear n0_ n1_ hb))
          go_ret
          exact ⟨rfl, HB.out⟩
end Go.Proofs.Ythkpnnbjcendcaa.X
