-- By xprint.py, out of the translation's own print. Lean checks it.
import Derived.Test.YtjkpdjadbeidnaaX0
import Derived.Test.YtjkpdjadbeidnaaX16
namespace Go.Proofs.Ytjkpdjadbeidnaa.X
open Go.RowKit Go.Proofs.YtjkpdjadbeidnaaW.PrintWords Go.Proofs.YtjkpdjadbeidnaaW.PrintLast Go.Proofs.YtjkpdjadbeidnaaW.PrintMore
attribute [local go_sem] max2_int min2_int max_two min_two max_three min_three max_four min_four   -- for this text's walks alone
set_option linter.unusedVariables false
set_option linter.unusedSimpArgs false

attribute [local go_sem high] idxA80
/-! ### marigraphref12_Of: function 31 -/
def marigraphref12_Of.l0 : Nat → List (S33) → Int → Int → Int → Int → Int → Int → Int → Option (Int × Int × Int × Int × Int × Int)
  | 0, _, _, _, _, _, _, _, _ => none
  | k + 1, x0, x4, x197000, x197001, x197002, x197003, x197004, x197005 => if x4 < (x0.length : Int) then (if 0 ≤ x4 then (if x4 = 0 then ((marigraphref12_add.f x197001 ((rd_T33 x0 x4).f1)).bind fun t198 => (marigraphref12_Of.l0 k x0 (wrap64 (x4 + 1)) (wrap64 (x197000 + 1)) t198 ((rd_T33 x0 x4).f1) ((rd_T33 x0 x4).f1) ((rd_T33 x0 x4).f1) ((rd_T33 x0 x4).f1))) else ((marigraphref12_add.f x197001 ((rd_T33 x0 x4).f1)).bind fun t199 => (marigraphref12_Of.l0 k x0 (wrap64 (x4 + 1)) (wrap64 (x197000 + 1)) t199 (mn x197002 ((rd_T33 x0 x4).f1)) (mx x197003 ((rd_T33 x0 x4).f1)) x197004 ((rd_T33 x0 x4).f1)))) else (none)) else (some (x197000, x197001, x197002, x197003, x197004, x197005))
def marigraphref12_Of.f (k : Nat) (l0 : List (S33)) : Option (Int × Int × Int × Int × Int × Int) := marigraphref12_Of.l0 k l0 0 0 0 0 0 0 0
theorem marigraphref12_Of.mono_l : ∀ k, (∀ y0 y1 y2 y3 y4 y5 y6 y7, LeO (marigraphref12_Of.l0 k y0 y1 y2 y3 y4 y5 y6 y7) (marigraphref12_Of.l0 (k + 1) y0 y1 y2 y3 y4 y5 y6 y7))
  | 0 => fun _ _ _ _ _ _ _ _ r h => by simp [marigraphref12_Of.l0] at h
  | k + 1 => by
    have ih0 := marigraphref12_Of.mono_l k
    · intro y0 y1 y2 y3 y4 y5 y6 y7
      unfold marigraphref12_Of.l0
      repeat' first
      | (with_reducible exact ih0 _ _ _ _ _ _ _ _)
      | (with_reducible exact LeO.refl _)
      | (with_reducible exact LeO.none _)
      | (with_reducible refine LeO.ite ?_ ?_)
      | (with_reducible refine LeO.bind ?_ (fun _ => ?_))
      | exact ih0 _ _ _ _ _ _ _ _
      | exact LeO.none _
      | refine LeO.ite ?_ ?_
      | refine LeO.bind ?_ (fun _ => ?_)
theorem marigraphref12_Of.mono : ∀ a0 k, LeO (marigraphref12_Of.f k a0) (marigraphref12_Of.f (k + 1) a0) := by
  intro a0 k
  have ih0 := marigraphref12_Of.mono_l k
  unfold marigraphref12_Of.f
  repeat' first
      | (with_reducible exact ih0 _ _ _ _ _ _ _ _)
      | (with_reducible exact LeO.refl _)
      | (with_reducible exact LeO.none _)
      | (with_reducible refine LeO.ite ?_ ?_)
      | (with_reducible refine LeO.bind ?_ (fun _ => ?_))
      | exact ih0 _ _ _ _ _ _ _ _
      | exact LeO.none _
      | refine LeO.ite ?_ ?_
      | refine LeO.bind ?_ (fun _ => ?_)
set_option maxHeartbeats 8000000 in
set_option maxRecDepth 100000 in
theorem marigraphref12_Of.calls (k : Nat) (A0 : Option Addr) (c0 : Nat) (l0 : List (S33)) (r1 : Int) (r2 : Int) (r3 : Int) (r4 : Int) (r5 : Int) (r6 : Int) (w : World) (hr0 : Kd.C k33 w A0 l0.length l0) (hc0 : l0.length ≤ c0) (h : marigraphref12_Of.f k l0 = some (r1, r2, r3, r4, r5, r6)) :
    Calls Try.prog 31 #[.slice A0 l0.length c0] w fun e w' => e = .returned (.agg #[.int .i64 r1, .int .i64 r2, .int .i64 r3, .int .i64 r4, .int .i64 r5, .int .i64 r6]) ∧ Below w.heap.size w w' := by
  have hu50 := Try.underlying50
  have HR0 := Aside0.mk hr0
  have HC0 := Aside0.mk hc0
  clear hr0 hc0
  have HB := Aside0.mk (Below.refl w.heap.size w)
  have H : (marigraphref12_Of.l0 k l0 0 0 0 0 0 0 0) = some (r1, r2, r3, r4, r5, r6) := h
  clear h
  have H' := Aside0.mk H
  clear H
  go_enter Try.func31, Try.ntmps31
  go_wp2_with (first | ((with_reducible refine gate_dst (N := 2) rfl ?_); refine box_event ?hg (N := 2) ?hd (cs := #[.int .i64 0, .int .i64 0, .int .i64 0, .int .i64 0, .int .i64 0, .int .i64 0]) (t := 50) ?hr ?_; (case hd => rfl); (case hg => rfl); (case hr => first | (go_simp; done) | (go_simp; rfl)); intro gb195 hg w2 hbox hb; have n0_ := Aside0.mk (below_step (by repeat (first | (with_reducible first | exact HB.out | apply below_alloc | apply pw_below_drewN | apply below_drew1) | exact HB.out)) hb); have n1_ := Aside0.mk (hbox); have n2_ := Aside0.mk ((by rw [hg]; exact (below_size (by repeat (first | (with_reducible first | exact HB.out | apply below_alloc | apply pw_below_drewN | apply below_drew1) | exact HB.out))) : w.heap.size ≤ gb195)); have n3_ := Aside0.mk ((by rw [hg]; exact (below_size (by repeat (first | (with_reducible first | exact HB.out | apply below_alloc | apply pw_below_drewN | apply below_drew1) | exact HB.out))) : w.heap.size ≤ gb195)); clear HB; have HB := n0_; have BK195 := n1_; have GW195 := n2_; have GE195 := n3_; clear n0_ n1_ n2_ n3_; clear hb hbox hg) | ((with_reducible refine gate_dst (N := 3) rfl ?_); refine box_event ?hg (N := 3) ?hd (cs := #[.int .i64 0, .int .i64 0, .int .i64 0, .int .i64 0, .int .i64 0, .int .i64 0]) (t := 50) ?hr ?_; (case hd => rfl); (case hg => rfl); (case hr => first | (go_simp; done) | (go_simp; rfl)); intro gb196 hg w3 hbox hb; have n0_ := Aside0.mk (blk_below (g := gb195) (o := .cells #[.int .i64 0, .int .i64 0, .int .i64 0, .int .i64 0, .int .i64 0, .int .i64 0] 50 (0, 0)) (by (with_reducible repeat (first | refine blk_drewN ?_ _ | refine blk_drew ?_ | refine blk_alloc ?_ _)); exact BK195.out) hb); have n1_ := Aside0.mk (below_step (by repeat (first | (with_reducible first | exact HB.out | apply below_alloc | apply pw_below_drewN | apply below_drew1 | refine below_set ?_ GE195.out) | exact HB.out)) hb); have n2_ := Aside0.mk (hbox); have n3_ := Aside0.mk ((by rw [hg]; exact (below_size (by repeat (first | (with_reducible first | exact HB.out | apply below_alloc | apply pw_below_drewN | apply below_drew1 | refine below_set ?_ GE195.out) | exact HB.out))) : w.heap.size ≤ gb196)); have n4_ := Aside0.mk ((by rw [hg]; exact (below_size (by repeat (first | (with_reducible first | exact HB.out | apply below_alloc | apply pw_below_drewN | apply below_drew1 | refine below_set ?_ GE195.out) | exact HB.out))) : w.heap.size ≤ gb196)); have n5_ := Aside0.mk ((by rw [hg]; exact Nat.ne_of_lt (blk_lt (g := gb195) (o := .cells #[.int .i64 0, .int .i64 0, .int .i64 0, .int .i64 0, .int .i64 0, .int .i64 0] 50 (0, 0)) (by (with_reducible repeat (first | refine blk_drewN ?_ _ | refine blk_drew ?_ | refine blk_alloc ?_ _)); exact BK195.out)) : gb195 ≠ gb196)); have n6_ := Aside0.mk ((by rw [hg]; exact Nat.ne_of_gt (blk_lt (g := gb195) (o := .cells #[.int .i64 0, .int .i64 0, .int .i64 0, .int .i64 0, .int .i64 0, .int .i64 0] 50 (0, 0)) (by (with_reducible repeat (first | refine blk_drewN ?_ _ | refine blk_drew ?_ | refine blk_alloc ?_ _)); exact BK195.out)) : gb196 ≠ gb195)); clear BK195; clear HB; have BK195 := n0_; have HB := n1_; have BK196 := n2_; have GW196 := n3_; have GE196 := n4_; have NB195_196 := n5_; have NB196_195 := n6_; clear n0_ n1_ n2_ n3_ n4_ n5_ n6_; clear hb hbox hg; have hnb4 := NB196_195.out; have hnc4 := NB195_196.out; have hcz5_0 : w3.cell? ⟨gb196, 0, none⟩ = some (.int .i64 0) := (blk_cell BK196.out 0).trans rfl; have hcz5_1 : w3.cell? ⟨gb196, 1, none⟩ = some (.int .i64 0) := (blk_cell BK196.out 1).trans rfl; have hcz5_2 : w3.cell? ⟨gb196, 2, none⟩ = some (.int .i64 0) := (blk_cell BK196.out 2).trans rfl; have hcz5_3 : w3.cell? ⟨gb196, 3, none⟩ = some (.int .i64 0) := (blk_cell BK196.out 3).trans rfl; have hcz5_4 : w3.cell? ⟨gb196, 4, none⟩ = some (.int .i64 0) := (blk_cell BK196.out 4).trans rfl; have hcz5_5 : w3.cell? ⟨gb196, 5, none⟩ = some (.int .i64 0) := (blk_cell BK196.out 5).trans rfl; have hfz5_0 := blk_frozen BK196.out 0; have hfz5_1 := blk_frozen BK196.out 1; have hfz5_2 := blk_frozen BK196.out 2; have hfz5_3 := blk_frozen BK196.out 3; have hfz5_4 := blk_frozen BK196.out 4; have hfz5_5 := blk_frozen BK196.out 5))
  go_loopg [4] k (fun kq v4 w' => ∃ (x4_1 : Int) (x197000_1 : Int) (x197001_1 : Int) (x197002_1 : Int) (x197003_1 : Int) (x197004_1 : Int) (x197005_1 : Int), v4 = .int .i64 x4_1 ∧ Aside0 (marigraphref12_Of.l0 kq l0 x4_1 x197000_1 x197001_1 x197002_1 x197003_1 x197004_1 x197005_1 = some (r1, r2, r3, r4, r5, r6)) ∧ Aside0 (kq ≤ k) ∧ Aside0 (w'.heap[gb195]? = some (.cells #[.int .i64 0, .int .i64 0, .int .i64 0, .int .i64 0, .int .i64 0, .int .i64 0] 50 (0, 0))) ∧ Aside0 (w'.heap[gb196]? = some (.cells #[.int .i64 x197000_1, .int .i64 x197001_1, .int .i64 x197002_1, .int .i64 x197003_1, .int .i64 x197004_1, .int .i64 x197005_1] 50 (0, 0))) ∧ Aside0 (Below w.heap.size w w'))
  case atStart => exact ⟨(0), (0), (0), (0), (0), (0), (0), (by first | rfl | (simp; done) | (simp [*]; done) | (simp <;> grind)), H', ⟨Nat.le_refl _⟩, ⟨by (with_reducible repeat (first | refine blk_drewN ?_ _ | refine blk_drew ?_ | refine blk_alloc ?_ _)); refine blk_far ?_ NB195_196.out _; (with_reducible repeat (first | refine blk_drewN ?_ _ | refine blk_drew ?_ | refine blk_alloc ?_ _)); refine blk_far ?_ NB195_196.out _; (with_reducible repeat (first | refine blk_drewN ?_ _ | refine blk_drew ?_ | refine blk_alloc ?_ _)); refine blk_far ?_ NB195_196.out _; (with_reducible repeat (first | refine blk_drewN ?_ _ | refine blk_drew ?_ | refine blk_alloc ?_ _)); refine blk_far ?_ NB195_196.out _; (with_reducible repeat (first | refine blk_drewN ?_ _ | refine blk_drew ?_ | refine blk_alloc ?_ _)); refine blk_far ?_ NB195_196.out _; (with_reducible repeat (first | refine blk_drewN ?_ _ | refine blk_drew ?_ | refine blk_alloc ?_ _)); refine blk_far ?_ NB195_196.out _; (with_reducible repeat (first | refine blk_drewN ?_ _ | refine blk_drew ?_ | refine blk_alloc ?_ _)); exact BK195.out⟩, ⟨by (with_reducible repeat (first | refine blk_drewN ?_ _ | refine blk_drew ?_ | refine blk_alloc ?_ _)); refine blk_put (cs := #[.int .i64 0, .int .i64 0, .int .i64 0, .int .i64 0, .int .i64 0, .int .i64 0]) ?_ 5 _ rfl; (with_reducible repeat (first | refine blk_drewN ?_ _ | refine blk_drew ?_ | refine blk_alloc ?_ _)); refine blk_put (cs := #[.int .i64 0, .int .i64 0, .int .i64 0, .int .i64 0, .int .i64 0, .int .i64 0]) ?_ 4 _ rfl; (with_reducible repeat (first | refine blk_drewN ?_ _ | refine blk_drew ?_ | refine blk_alloc ?_ _)); refine blk_put (cs := #[.int .i64 0, .int .i64 0, .int .i64 0, .int .i64 0, .int .i64 0, .int .i64 0]) ?_ 3 _ rfl; (with_reducible repeat (first | refine blk_drewN ?_ _ | refine blk_drew ?_ | refine blk_alloc ?_ _)); refine blk_put (cs := #[.int .i64 0, .int .i64 0, .int .i64 0, .int .i64 0, .int .i64 0, .int .i64 0]) ?_ 2 _ rfl; (with_reducible repeat (first | refine blk_drewN ?_ _ | refine blk_drew ?_ | refine blk_alloc ?_ _)); refine blk_put (cs := #[.int .i64 0, .int .i64 0, .int .i64 0, .int .i64 0, .int .i64 0, .int .i64 0]) ?_ 1 _ rfl; (with_reducible repeat (first | refine blk_drewN ?_ _ | refine blk_drew ?_ | refine blk_alloc ?_ _)); refine blk_put (cs := #[.int .i64 0, .int .i64 0, .int .i64 0, .int .i64 0, .int .i64 0, .int .i64 0]) ?_ 0 _ rfl; (with_reducible repeat (first | refine blk_drewN ?_ _ | refine blk_drew ?_ | refine blk_alloc ?_ _)); exact BK196.out⟩, ⟨by repeat (first | (with_reducible first | exact HB.out | apply below_alloc | apply pw_below_drewN | apply below_drew1 | refine below_set ?_ GE195.out | refine below_set ?_ GE196.out) | exact HB.out)⟩⟩
  case round =>
    clear H'
    try clear p2
    try clear c3
    try clear c4
    try clear hcz5_0
    try clear hcz5_1
    try clear hcz5_2
    try clear hcz5_3
    try clear hcz5_4
    try clear hcz5_5
    try clear hfz5_0
    try clear hfz5_1
    try clear hfz5_2
    try clear hfz5_3
    try clear hfz5_4
    try clear hfz5_5
    obtain ⟨x4_1, x197000_1, x197001_1, x197002_1, x197003_1, x197004_1, x197005_1, rfl, HA, HK1, BK195, BK196, HB⟩ := hrel
    cases gk with
    | zero => exact absurd HA.out (by simp [marigraphref12_Of.l0])
    | succ k1 =>
      have H := HA.out
      clear HA
      simp only [marigraphref12_Of.l0] at H
      by_cases c6 : x4_1 < (l0.length : Int)
      · rw [if_pos c6] at H
        have c6b0 : decide (x4_1 < (l0.length : Int)) = true := decide_eq_true c6
        clear c6
        by_cases c7 : 0 ≤ x4_1
        · rw [if_pos c7] at H
          have c7b0 : decide (0 ≤ x4_1) = true := decide_eq_true c7
          clear c7
          by_cases c8 : x4_1 = 0
          · rw [if_pos c8] at H
            have c8b0 : (x4_1 == 0) = true := beq_iff_eq.mpr c8
            have c8b1 : (x4_1 != 0) = false := bne_eq_false_iff_eq.mpr c8
            clear c8
            replace H := Option.bind_eq_some_iff.mp H
            obtain ⟨t198, A90, H⟩ := H
            replace H : (marigraphref12_Of.l0 k1 l0 (wrap64 (x4_1 + 1)) (wrap64 (x197000_1 + 1)) t198 ((rd_T33 l0 x4_1).f1) ((rd_T33 l0 x4_1).f1) ((rd_T33 l0 x4_1).f1) ((rd_T33 l0 x4_1).f1)) = some (r1, r2, r3, r4, r5, r6) := H
            have A9 := Aside0.mk A90
            clear A90
            have H' := Aside0.mk H
            clear H
            have p197 : 0 ≤ (x4_1 : Int) := of_decide_eq_true (by first | (with_reducible assumption) | assumption)
            have q197 : x4_1 < (l0.length : Int) := of_decide_eq_true (by first | (with_reducible assumption) | assumption)
            obtain ⟨ad197, e197, hx197_0, hx197_1⟩ := at_T33 HR0.out x4_1 p197 q197
            cases e197
            replace hx197_0 := (HB.out.cell (World.block_lt_of_cell? w _ hx197_0)).trans hx197_0
            replace hx197_1 := (HB.out.cell (World.block_lt_of_cell? w _ hx197_1)).trans hx197_1
            replace p197 := eq_true p197
            replace q197 := eq_true q197
            have hnb10 := NB196_195.out
            have hnc10 := NB195_196.out
            have hcz11_0 : wr.cell? ⟨gb196, 0, none⟩ = some (.int .i64 x197000_1) := (blk_cell BK196.out 0).trans rfl
            have hcz11_1 : wr.cell? ⟨gb196, 1, none⟩ = some (.int .i64 x197001_1) := (blk_cell BK196.out 1).trans rfl
            have hcz11_2 : wr.cell? ⟨gb196, 2, none⟩ = some (.int .i64 x197002_1) := (blk_cell BK196.out 2).trans rfl
            have hcz11_3 : wr.cell? ⟨gb196, 3, none⟩ = some (.int .i64 x197003_1) := (blk_cell BK196.out 3).trans rfl
            have hcz11_4 : wr.cell? ⟨gb196, 4, none⟩ = some (.int .i64 x197004_1) := (blk_cell BK196.out 4).trans rfl
            have hcz11_5 : wr.cell? ⟨gb196, 5, none⟩ = some (.int .i64 x197005_1) := (blk_cell BK196.out 5).trans rfl
            have hfz11_0 := blk_frozen BK196.out 0
            have hfz11_1 := blk_frozen BK196.out 1
            have hfz11_2 := blk_frozen BK196.out 2
            have hfz11_3 := blk_frozen BK196.out 3
            have hfz11_4 := blk_frozen BK196.out 4
            have hfz11_5 := blk_frozen BK196.out 5
            go_wp2_with (first | ((with_reducible refine gate_callee (f := 44) rfl ?_); refine goesL_ (some 33) rfl rfl Try.func44 (by kernel_rfl) rfl #[.int .i64 x197001_1, .int .i64 ((rd_T33 l0 x4_1).f1)] rfl (by (try simp only [List.map_toArray, List.map_cons, List.map_nil]); first | done | rfl | (simp only [List.length_drop, List.length_take]; rfl)) ?_; (with_reducible refine (marigraphref12_add.calls x197001_1 ((rd_T33 l0 x4_1).f1) t198 _ A9.out).mono ?_); rintro e w' ⟨rfl, ⟨nd, rfl⟩⟩; refine ⟨_, rfl, ?_⟩))
            go_roundg k1
            case measure => have := HK1.out; omega
            case rel => exact ⟨(wrap64 (x4_1 + 1)), (wrap64 (x197000_1 + 1)), (t198), ((rd_T33 l0 x4_1).f1), ((rd_T33 l0 x4_1).f1), ((rd_T33 l0 x4_1).f1), ((rd_T33 l0 x4_1).f1), (by first | rfl | (simp; done) | (simp [*]; done) | (simp <;> grind)), H', ⟨by have := HK1.out; omega⟩, ⟨by (with_reducible repeat (first | refine blk_drewN ?_ _ | refine blk_drew ?_ | refine blk_alloc ?_ _)); refine blk_far ?_ NB195_196.out _; (with_reducible repeat (first | refine blk_drewN ?_ _ | refine blk_drew ?_ | refine blk_alloc ?_ _)); refine blk_far ?_ NB195_196.out _; (with_reducible repeat (first | refine blk_drewN ?_ _ | refine blk_drew ?_ | refine blk_alloc ?_ _)); refine blk_far ?_ NB195_196.out _; (with_reducible repeat (first | refine blk_drewN ?_ _ | refine blk_drew ?_ | refine blk_alloc ?_ _)); refine blk_far ?_ NB195_196.out _; (with_reducible repeat (first | refine blk_drewN ?_ _ | refine blk_drew ?_ | refine blk_alloc ?_ _)); refine blk_far ?_ NB195_196.out _; (with_reducible repeat (first | refine blk_drewN ?_ _ | refine blk_drew ?_ | refine blk_alloc ?_ _)); refine blk_far ?_ NB195_196.out _; (with_reducible repeat (first | refine blk_drewN ?_ _ | refine blk_drew ?_ | refine blk_alloc ?_ _)); refine blk_far ?_ NB195_196.out _; (with_reducible repeat (first | refine blk_drewN ?_ _ | refine blk_drew ?_ | refine blk_alloc ?_ _)); refine blk_far ?_ NB195_196.out _; (with_reducible repeat (first | refine blk_drewN ?_ _ | refine blk_drew ?_ | refine blk_alloc ?_ _)); exact BK195.out⟩, ⟨by (with_reducible repeat (first | refine blk_drewN ?_ _ | refine blk_drew ?_ | refine blk_alloc ?_ _)); refine blk_put (cs := #[.int .i64 (wrap64 (x197000_1 + 1)), .int .i64 t198, .int .i64 ((rd_T33 l0 x4_1).f1), .int .i64 ((rd_T33 l0 x4_1).f1), .int .i64 ((rd_T33 l0 x4_1).f1), .int .i64 x197005_1]) ?_ 5 _ rfl; (with_reducible repeat (first | refine blk_drewN ?_ _ | refine blk_drew ?_ | refine blk_alloc ?_ _)); refine blk_put (cs := #[.int .i64 (wrap64 (x197000_1 + 1)), .int .i64 t198, .int .i64 ((rd_T33 l0 x4_1).f1), .int .i64 ((rd_T33 l0 x4_1).f1), .int .i64 ((rd_T33 l0 x4_1).f1), .int .i64 x197005_1]) ?_ 3 _ rfl; (with_reducible repeat (first | refine blk_drewN ?_ _ | refine blk_drew ?_ | refine blk_alloc ?_ _)); refine blk_put (cs := #[.int .i64 (wrap64 (x197000_1 + 1)), .int .i64 t198, .int .i64 ((rd_T33 l0 x4_1).f1), .int .i64 ((rd_T33 l0 x4_1).f1), .int .i64 ((rd_T33 l0 x4_1).f1), .int .i64 x197005_1]) ?_ 2 _ rfl; (with_reducible repeat (first | refine blk_drewN ?_ _ | refine blk_drew ?_ | refine blk_alloc ?_ _)); refine blk_put (cs := #[.int .i64 (wrap64 (x197000_1 + 1)), .int .i64 x197001_1, .int .i64 ((rd_T33 l0 x4_1).f1), .int .i64 ((rd_T33 l0 x4_1).f1), .int .i64 ((rd_T33 l0 x4_1).f1), .int .i64 x197005_1]) ?_ 1 _ rfl; (with_reducible repeat (first | refine blk_drewN ?_ _ | refine blk_drew ?_ | refine blk_alloc ?_ _)); refine blk_put (cs := #[.int .i64 x197000_1, .int .i64 x197001_1, .int .i64 ((rd_T33 l0 x4_1).f1), .int .i64 ((rd_T33 l0 x4_1).f1), .int .i64 ((rd_T33 l0 x4_1).f1), .int .i64 x197005_1]) ?_ 0 _ rfl; (with_reducible repeat (first | refine blk_drewN ?_ _ | refine blk_drew ?_ | refine blk_alloc ?_ _)); refine blk_put (cs := #[.int .i64 x197000_1, .int .i64 x197001_1, .int .i64 ((rd_T33 l0 x4_1).f1), .int .i64 ((rd_T33 l0 x4_1).f1), .int .i64 x197004_1, .int .i64 x197005_1]) ?_ 4 _ rfl; (with_reducible repeat (first | refine blk_drewN ?_ _ | refine blk_drew ?_ | refine blk_alloc ?_ _)); refine blk_put (cs := #[.int .i64 x197000_1, .int .i64 x197001_1, .int .i64 ((rd_T33 l0 x4_1).f1), .int .i64 x197003_1, .int .i64 x197004_1, .int .i64 x197005_1]) ?_ 3 _ rfl; (with_reducible repeat (first | refine blk_drewN ?_ _ | refine blk_drew ?_ | refine blk_alloc ?_ _)); refine blk_put (cs := #[.int .i64 x197000_1, .int .i64 x197001_1, .int .i64 x197002_1, .int .i64 x197003_1, .int .i64 x197004_1, .int .i64 x197005_1]) ?_ 2 _ rfl; (with_reducible repeat (first | refine blk_drewN ?_ _ | refine blk_drew ?_ | refine blk_alloc ?_ _)); exact BK196.out⟩, ⟨by repeat (first | (with_reducible first | exact HB.out | apply below_alloc | apply pw_below_drewN | apply below_drew1 | refine below_set ?_ GE195.out | refine below_set ?_ GE196.out) | exact HB.out)⟩⟩
          · rw [if_neg c8] at H
            have c8b0 : (x4_1 == 0) = false := beq_eq_false_iff_ne.mpr c8
            have c8b1 : (x4_1 != 0) = true := bne_iff_ne.mpr c8
            replace H := Option.bind_eq_some_iff.mp H
            obtain ⟨t199, A120, H⟩ := H
            replace H : (marigraphref12_Of.l0 k1 l0 (wrap64 (x4_1 + 1)) (wrap64 (x197000_1 + 1)) t199 (mn x197002_1 ((rd_T33 l0 x4_1).f1)) (mx x197003_1 ((rd_T33 l0 x4_1).f1)) x197004_1 ((rd_T33 l0 x4_1).f1)) = some (r1, r2, r3, r4, r5, r6) := H
            have A12 := Aside0.mk A120
            clear A120
            obtain ⟨ji13, hji13⟩ : ∃ j_ : Int, (mn x197002_1 ((rd_T33 l0 x4_1).f1)) = j_ := ⟨_, rfl⟩
            replace H : (marigraphref12_Of.l0 k1 l0 (wrap64 (x4_1 + 1)) (wrap64 (x197000_1 + 1)) t199 ji13 (mx x197003_1 ((rd_T33 l0 x4_1).f1)) x197004_1 ((rd_T33 l0 x4_1).f1)) = some (r1, r2, r3, r4, r5, r6) := by first | (rw [hji13] at H; exact H) | (simp only [hji13] at H ⊢; exact H)
            (try rw [hji13] at A12)
            have hji13_ : (if ((rd_T33 l0 x4_1).f1) < x197002_1 then ((rd_T33 l0 x4_1).f1) else x197002_1) = ji13 := hji13
            obtain ⟨ji14, hji14⟩ : ∃ j_ : Int, (mx x197003_1 ((rd_T33 l0 x4_1).f1)) = j_ := ⟨_, rfl⟩
            replace H : (marigraphref12_Of.l0 k1 l0 (wrap64 (x4_1 + 1)) (wrap64 (x197000_1 + 1)) t199 ji13 ji14 x197004_1 ((rd_T33 l0 x4_1).f1)) = some (r1, r2, r3, r4, r5, r6) := by first | (rw [hji14] at H; exact H) | (simp only [hji14] at H ⊢; exact H)
            (try rw [hji14] at A12)
            have hji14_ : (if x197003_1 < ((rd_T33 l0 x4_1).f1) then ((rd_T33 l0 x4_1).f1) else x197003_1) = ji14 := hji14
            have H' := Aside0.mk H
            clear H
            have p197 : 0 ≤ (x4_1 : Int) := of_decide_eq_true (by first | (with_reducible assumption) | assumption)
            have q197 : x4_1 < (l0.length : Int) := of_decide_eq_true (by first | (with_reducible assumption) | assumption)
            obtain ⟨ad197, e197, hx197_0, hx197_1⟩ := at_T33 HR0.out x4_1 p197 q197
            cases e197
            replace hx197_0 := (HB.out.cell (World.block_lt_of_cell? w _ hx197_0)).trans hx197_0
            replace hx197_1 := (HB.out.cell (World.block_lt_of_cell? w _ hx197_1)).trans hx197_1
            replace p197 := eq_true p197
            replace q197 := eq_true q197
            have hnb15 := NB196_195.out
            have hnc15 := NB195_196.out
            have hcz16_0 : wr.cell? ⟨gb196, 0, none⟩ = some (.int .i64 x197000_1) := (blk_cell BK196.out 0).trans rfl
            have hcz16_1 : wr.cell? ⟨gb196, 1, none⟩ = some (.int .i64 x197001_1) := (blk_cell BK196.out 1).trans rfl
            have hcz16_2 : wr.cell? ⟨gb196, 2, none⟩ = some (.int .i64 x197002_1) := (blk_cell BK196.out 2).trans rfl
            have hcz16_3 : wr.cell? ⟨gb196, 3, none⟩ = some (.int .i64 x197003_1) := (blk_cell BK196.out 3).trans rfl
            have hcz16_4 : wr.cell? ⟨gb196, 4, none⟩ = some (.int .i64 x197004_1) := (blk_cell BK196.out 4).trans rfl
            have hcz16_5 : wr.cell? ⟨gb196, 5, none⟩ = some (.int .i64 x197005_1) := (blk_cell BK196.out 5).trans rfl
            have hfz16_0 := blk_frozen BK196.out 0
            have hfz16_1 := blk_frozen BK196.out 1
            have hfz16_2 := blk_frozen BK196.out 2
            have hfz16_3 := blk_frozen BK196.out 3
            have hfz16_4 := blk_frozen BK196.out 4
            have hfz16_5 := blk_frozen BK196.out 5
            go_wp2_with (first | ((with_reducible refine gate_callee (f := 44) rfl ?_); refine goesL_ (some 33) rfl rfl Try.func44 (by kernel_rfl) rfl #[.int .i64 x197001_1, .int .i64 ((rd_T33 l0 x4_1).f1)] rfl (by (try simp only [List.map_toArray, List.map_cons, List.map_nil]); first | done | rfl | (simp only [List.length_drop, List.length_take]; rfl)) ?_; (with_reducible refine (marigraphref12_add.calls x197001_1 ((rd_T33 l0 x4_1).f1) t199 _ A12.out).mono ?_); rintro e w' ⟨rfl, ⟨nd, rfl⟩⟩; refine ⟨_, rfl, ?_⟩))
            go_roundg k1
            case measure => have := HK1.out; omega
            case rel => exact ⟨(wrap64 (x4_1 + 1)), (wrap64 (x197000_1 + 1)), (t199), (ji13), (ji14), (x197004_1), ((rd_T33 l0 x4_1).f1), (by first | rfl | (simp; done) | (simp [*]; done) | (simp <;> grind)), (by first | exact H' | (simp only [hji13, hji14]; exact H')), ⟨by have := HK1.out; omega⟩, ⟨by (with_reducible repeat (first | refine blk_drewN ?_ _ | refine blk_drew ?_ | refine blk_alloc ?_ _)); refine blk_far ?_ NB195_196.out _; (with_reducible repeat (first | refine blk_drewN ?_ _ | refine blk_drew ?_ | refine blk_alloc ?_ _)); refine blk_far ?_ NB195_196.out _; (with_reducible repeat (first | refine blk_drewN ?_ _ | refine blk_drew ?_ | refine blk_alloc ?_ _)); refine blk_far ?_ NB195_196.out _; (with_reducible repeat (first | refine blk_drewN ?_ _ | refine blk_drew ?_ | refine blk_alloc ?_ _)); refine blk_far ?_ NB195_196.out _; (with_reducible repeat (first | refine blk_drewN ?_ _ | refine blk_drew ?_ | refine blk_alloc ?_ _)); refine blk_far ?_ NB195_196.out _; (with_reducible repeat (first | refine blk_drewN ?_ _ | refine blk_drew ?_ | refine blk_alloc ?_ _)); exact BK195.out⟩, ⟨by (with_reducible repeat (first | refine blk_drewN ?_ _ | refine blk_drew ?_ | refine blk_alloc ?_ _)); refine blk_put (cs := #[.int .i64 (wrap64 (x197000_1 + 1)), .int .i64 t199, .int .i64 ji13, .int .i64 ji14, .int .i64 x197004_1, .int .i64 x197005_1]) ?_ 5 _ rfl; (with_reducible repeat (first | refine blk_drewN ?_ _ | refine blk_drew ?_ | refine blk_alloc ?_ _)); refine blk_put (cs := #[.int .i64 (wrap64 (x197000_1 + 1)), .int .i64 t199, .int .i64 ji13, .int .i64 x197003_1, .int .i64 x197004_1, .int .i64 x197005_1]) ?_ 3 _ rfl; (with_reducible repeat (first | refine blk_drewN ?_ _ | refine blk_drew ?_ | refine blk_alloc ?_ _)); refine blk_put (cs := #[.int .i64 (wrap64 (x197000_1 + 1)), .int .i64 t199, .int .i64 x197002_1, .int .i64 x197003_1, .int .i64 x197004_1, .int .i64 x197005_1]) ?_ 2 _ rfl; (with_reducible repeat (first | refine blk_drewN ?_ _ | refine blk_drew ?_ | refine blk_alloc ?_ _)); refine blk_put (cs := #[.int .i64 (wrap64 (x197000_1 + 1)), .int .i64 x197001_1, .int .i64 x197002_1, .int .i64 x197003_1, .int .i64 x197004_1, .int .i64 x197005_1]) ?_ 1 _ rfl; (with_reducible repeat (first | refine blk_drewN ?_ _ | refine blk_drew ?_ | refine blk_alloc ?_ _)); refine blk_put (cs := #[.int .i64 x197000_1, .int .i64 x197001_1, .int .i64 x197002_1, .int .i64 x197003_1, .int .i64 x197004_1, .int .i64 x197005_1]) ?_ 0 _ rfl; (with_reducible repeat (first | refine blk_drewN ?_ _ | refine blk_drew ?_ | refine blk_alloc ?_ _)); exact BK196.out⟩, ⟨by repeat (first | (with_reducible first | exact HB.out | apply below_alloc | apply pw_below_drewN | apply below_drew1 | refine below_set ?_ GE195.out | refine below_set ?_ GE196.out) | exact HB.out)⟩⟩
        · rw [if_neg c7] at H
          exact absurd H (by simp)
      · rw [if_neg c6] at H
        have c6b0 : decide (x4_1 < (l0.length : Int)) = false := decide_eq_false c6
        clear c6
        simp only [Option.some.injEq, Prod.mk.injEq] at H
        obtain ⟨rfl, rfl, rfl, rfl, rfl, rfl⟩ := H
        have hnb17 := NB196_195.out
        have hnc17 := NB195_196.out
        have hcz18_0 : wr.cell? ⟨gb196, 0, none⟩ = some (.int .i64 x197000_1) := (blk_cell BK196.out 0).trans rfl
        have hcz18_1 : wr.cell? ⟨gb196, 1, none⟩ = some (.int .i64 x197001_1) := (blk_cell BK196.out 1).trans rfl
        have hcz18_2 : wr.cell? ⟨gb196, 2, none⟩ = some (.int .i64 x197002_1) := (blk_cell BK196.out 2).trans rfl
        have hcz18_3 : wr.cell? ⟨gb196, 3, none⟩ = some (.int .i64 x197003_1) := (blk_cell BK196.out 3).trans rfl
        have hcz18_4 : wr.cell? ⟨gb196, 4, none⟩ = some (.int .i64 x197004_1) := (blk_cell BK196.out 4).trans rfl
        have hcz18_5 : wr.cell? ⟨gb196, 5, none⟩ = some (.int .i64 x197005_1) := (blk_cell BK196.out 5).trans rfl
        have hfz18_0 := blk_frozen BK196.out 0
        have hfz18_1 := blk_frozen BK196.out 1
        have hfz18_2 := blk_frozen BK196.out 2
        have hfz18_3 := blk_frozen BK196.out 3
        have hfz18_4 := blk_frozen BK196.out 4
        have hfz18_5 := blk_frozen BK196.out 5
        have hcz19_0 : wr.cell? ⟨gb195, 0, none⟩ = some (.int .i64 0) := (blk_cell BK195.out 0).trans rfl
        have hcz19_1 : wr.cell? ⟨gb195, 1, none⟩ = some (.int .i64 0) := (blk_cell BK195.out 1).trans rfl
        have hcz19_2 : wr.cell? ⟨gb195, 2, none⟩ = some (.int .i64 0) := (blk_cell BK195.out 2).trans rfl
        have hcz19_3 : wr.cell? ⟨gb195, 3, none⟩ = some (.int .i64 0) := (blk_cell BK195.out 3).trans rfl
        have hcz19_4 : wr.cell? ⟨gb195, 4, none⟩ = some (.int .i64 0) := (blk_cell BK195.out 4).trans rfl
        have hcz19_5 : wr.cell? ⟨gb195, 5, none⟩ = some (.int .i64 0) := (blk_cell BK195.out 5).trans rfl
        have hfz19_0 := blk_frozen BK195.out 0
        have hfz19_1 := blk_frozen BK195.out 1
        have hfz19_2 := blk_frozen BK195.out 2
        have hfz19_3 := blk_frozen BK195.out 3
        have hfz19_4 := blk_frozen BK195.out 4
        have hfz19_5 := blk_frozen BK195.out 5
        go_wp2
        refine bodyPost_ret (results_cell_row rfl _ _ gb195 50 #[.int .i64 x197000_1, .int .i64 x197001_1, .int .i64 x197002_1, .int .i64 x197003_1, .int .i64 x197004_1, .int .i64 x197005_1] (0, 0) _ rfl (by (with_reducible repeat (first | refine blk_drewN ?_ _ | refine blk_drew ?_ | refine blk_alloc ?_ _)); refine blk_put (cs := #[.int .i64 x197000_1, .int .i64 x197001_1, .int .i64 x197002_1, .int .i64 x197003_1, .int .i64 x197004_1, .int .i64 0]) ?_ 5 _ rfl; (with_reducible repeat (first | refine blk_drewN ?_ _ | refine blk_drew ?_ | refine blk_alloc ?_ _)); refine blk_put (cs := #[.int .i64 x197000_1, .int .i64 x197001_1, .int .i64 x197002_1, .int .i64 x197003_1, .int .i64 0, .int .i64 0]) ?_ 4 _ rfl; (with_reducible repeat (first | refine blk_drewN ?_ _ | refine blk_drew ?_ | refine blk_alloc ?_ _)); refine blk_put (cs := #[.int .i64 x197000_1, .int .i64 x197001_1, .int .i64 x197002_1, .int .i64 0, .int .i64 0, .int .i64 0]) ?_ 3 _ rfl; (with_reducible repeat (first | refine blk_drewN ?_ _ | refine blk_drew ?_ | refine blk_alloc ?_ _)); refine blk_put (cs := #[.int .i64 x197000_1, .int .i64 x197001_1, .int .i64 0, .int .i64 0, .int .i64 0, .int .i64 0]) ?_ 2 _ rfl; (with_reducible repeat (first | refine blk_drewN ?_ _ | refine blk_drew ?_ | refine blk_alloc ?_ _)); refine blk_put (cs := #[.int .i64 x197000_1, .int .i64 0, .int .i64 0, .int .i64 0, .int .i64 0, .int .i64 0]) ?_ 1 _ rfl; (with_reducible repeat (first | refine blk_drewN ?_ _ | refine blk_drew ?_ | refine blk_alloc ?_ _)); refine blk_put (cs := #[.int .i64 0, .int .i64 0, .int .i64 0, .int .i64 0, .int .i64 0, .int .i64 0]) ?_ 0 _ rfl; (with_reducible repeat (first | refine blk_drewN ?_ _ | refine blk_drew ?_ | refine blk_alloc ?_ _)); exact BK195.out) Try.underlying50 rfl (by kernel_rfl)) rfl ?_
        exact ⟨by first | rfl | (simp [errW_none, errW_some] <;> rfl) | (simp [*, errW_none, errW_some] <;> rfl), by repeat (first | (with_reducible first | exact HB.out | apply below_alloc | apply pw_below_drewN | apply below_drew1 | refine below_set ?_ GE195.out | refine below_set ?_ GE196.out) | exact HB.out)⟩

end Go.Proofs.Ytjkpdjadbeidnaa.X
