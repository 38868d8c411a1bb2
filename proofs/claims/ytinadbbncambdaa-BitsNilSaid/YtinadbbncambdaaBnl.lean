/- The law BitsNil, walked: nil has no bits, and takes none. -/
import Derived.Test.YtinadbbncambdaaBsw
namespace Go.Proofs.Ytinadbbncambdaa.X
open Go.RowKit Go.Proofs.YtinadbbncambdaaW.PrintWords Go.Proofs.YtinadbbncambdaaW.PrintLast Go.Proofs.YtinadbbncambdaaW.PrintMore
attribute [local go_sem] max2_int min2_int max_two min_two max_three min_three max_four min_four
set_option linter.unusedVariables false
set_option linter.unusedSimpArgs false

def marigraphlaw02_BitsNil.f (_a0_0 : Int) (_a0_1 : Int) : Option Bool := some true
set_option maxHeartbeats 8000000 in
set_option maxRecDepth 100000 in
theorem marigraphlaw02_BitsNil.calls (a0_0 : Int) (a0_1 : Int) (r : Bool) (w : World) (h : marigraphlaw02_BitsNil.f a0_0 a0_1 = some r) :
    Calls Try.prog 6 #[.agg #[.int .u64 a0_0, .int .i64 a0_1]] w fun e w' => e = .returned (.bool r) ∧ Below w.heap.size w w' := by
  obtain rfl := Option.some.inj h
  have HB := Aside0.mk (Below.refl w.heap.size w)
  clear h
  go_enter Try.func6, Try.ntmps6
  go_wp2_with (first
    | ((with_reducible refine gate_dst (N := 1) rfl ?_); (try (refine gate_guard (by rfl) ?_; dsimp only)); refine box_event ?hg (N := 1) ?hd (cs := #[.int .u64 a0_0, .int .i64 a0_1]) (t := 34) ?hr ?_; (case hd => rfl); (case hg => rfl); (case hr => first | (go_simp; done) | (go_simp; rfl)); intro g hg w1 hbox hb; have n0_ := Aside0.mk (below_step HB.out hb); have hc0 : w1.cell? ⟨g, 0, none⟩ = some (.int .u64 a0_0) := (blk_cell hbox 0).trans rfl; have hc1 : w1.cell? ⟨g, 1, none⟩ = some (.int .i64 a0_1) := (blk_cell hbox 1).trans rfl; have BK := Aside0.mk hbox; clear HB; have HB := n0_; clear n0_ hb hg hbox)
    | ((with_reducible refine gate_dst (N := 4) rfl ?_); refine goesL_ (some 4) rfl rfl Try.func18 (by kernel_rfl) rfl #[] rfl (by (try simp only [List.map_toArray, List.map_cons, List.map_nil]); first | done | rfl) ?_; (with_reducible refine (marigraphlaw02_shown.calls true _ rfl).mono ?_); rintro e w2 ⟨rfl, hb⟩; refine ⟨_, rfl, ?_⟩; have n0_ := Aside0.mk (below_step (by repeat (first | (with_reducible first | exact HB.out | apply below_alloc | apply pw_below_drewN | apply below_drew1) | exact HB.out)) hb); have n1_ := Aside0.mk (blk_below BK.out hb); clear HB hc0 hc1 BK; have HB := n0_; have BK := n1_; have hc0 : w2.cell? ⟨g, 0, none⟩ = some (.int .u64 a0_0) := (blk_cell BK.out 0).trans rfl; have hc1 : w2.cell? ⟨g, 1, none⟩ = some (.int .i64 a0_1) := (blk_cell BK.out 1).trans rfl; clear n0_ n1_ hb)
    | (go_at_call 20; (with_reducible refine (bits_Bits_Put.callsN a0_0 a0_1 _).mono ?_); rintro e w3 ⟨rfl, hb⟩; have n0_ := Aside0.mk (below_step (by repeat (first | (with_reducible first | exact HB.out | apply below_alloc | apply pw_below_drewN | apply below_drew1) | exact HB.out)) hb); clear HB; have HB := n0_; clear n0_ hb)
    | (go_at_call 22; (with_reducible refine (bits_Bits_Len.callsN _).mono ?_); rintro e w4 ⟨rfl, hb⟩; have n0_ := Aside0.mk (below_step (by repeat (first | (with_reducible first | exact HB.out | apply below_alloc | apply pw_below_drewN | apply below_drew1) | exact HB.out)) hb); clear HB; have HB := n0_; clear n0_ hb)
    | (go_at_call 23; (with_reducible refine (bits_Bits_Bytes.callsN _).mono ?_); rintro e w5 ⟨rfl, hb⟩; have n0_ := Aside0.mk (below_step (by repeat (first | (with_reducible first | exact HB.out | apply below_alloc | apply pw_below_drewN | apply below_drew1) | exact HB.out)) hb); clear HB; have HB := n0_; clear n0_ hb))
  go_ret
  exact ⟨rfl, by repeat (first | (with_reducible first | exact HB.out | apply below_alloc | apply pw_below_drewN | apply below_drew1) | exact HB.out)⟩
end Go.Proofs.Ytinadbbncambdaa.X
