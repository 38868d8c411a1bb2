/- (*bits.Bits).Len and .Bytes, with bits and with nil; .Put with nil; and the head of the laws of layer 2. -/
import Derived.Test.YthkpnnbjcendcaaBcl
import Derived.Test.YthkpnnbjcendcaaBat
import Derived.Test.YthkpnnbjcendcaaBpu
namespace Go.Proofs.Ythkpnnbjcendcaa.X
open Go.RowKit Go.Proofs.YthkpnnbjcendcaaW.PrintWords Go.Proofs.YthkpnnbjcendcaaW.PrintLast Go.Proofs.YthkpnnbjcendcaaW.PrintMore
attribute [local go_sem] max2_int min2_int max_two min_two max_three min_three max_four min_four
set_option linter.unusedVariables false
set_option linter.unusedSimpArgs false

theorem bits_Bits_Len.calls (g : Nat) (u : Value) (many : Int) (w : World) (hb0 : w.heap[g]? = some (.cells #[u, .int .i64 many] 26 (0, 0))) :
    Calls Try.prog 24 #[.pointer (some ⟨g, 0, none⟩)] w fun e w' => e = .returned (.int .i64 many) ∧ Below w.heap.size w w' := by
  have HB := Aside0.mk (Below.refl w.heap.size w)
  have hc1 : World.cell? w ⟨g, 1, none⟩ = some (Value.int .i64 many) := (blk_cell hb0 1).trans rfl
  clear hb0
  go_enter Try.func24, Try.ntmps24
  go_wp2
  go_ret
  exact ⟨rfl, by repeat (first | (with_reducible first | exact HB.out | apply below_alloc | apply pw_below_drewN | apply below_drew1) | exact HB.out)⟩
theorem bits_Bits_Len.callsN (w : World) : Calls Try.prog 24 #[.pointer none] w fun e w' => e = .returned (.int .i64 0) ∧ Below w.heap.size w w' := by
  have HB := Aside0.mk (Below.refl w.heap.size w)
  go_enter Try.func24, Try.ntmps24
  go_wp2
  go_ret
  exact ⟨rfl, by repeat (first | (with_reducible first | exact HB.out | apply below_alloc | apply pw_below_drewN | apply below_drew1) | exact HB.out)⟩
theorem bits_Bits_Put.callsN (n width : Int) (w : World) : Calls Try.prog 22 #[.pointer none, .int .u64 n, .int .i64 width] w fun e w' => e = .returned (.int .i64 2) ∧ Below w.heap.size w w' := by
  have HB := Aside0.mk (Below.refl w.heap.size w)
  go_enter Try.func22, Try.ntmps22
  go_wp2
  go_ret
  exact ⟨rfl, by repeat (first | (with_reducible first | exact HB.out | apply below_alloc | apply pw_below_drewN | apply below_drew1) | exact HB.out)⟩
theorem bits_Bits_Bytes.callsN (w : World) : Calls Try.prog 25 #[.pointer none] w fun e w' => e = .returned (.slice none 0 0) ∧ Below w.heap.size w w' := by
  have HB := Aside0.mk (Below.refl w.heap.size w)
  go_enter Try.func25, Try.ntmps25
  go_wp2
  go_ret
  exact ⟨rfl, by repeat (first | (with_reducible first | exact HB.out | apply below_alloc | apply pw_below_drewN | apply below_drew1) | exact HB.out)⟩
theorem bits_Bits_Bytes.calls (g : Nat) (base : Nat) (u : Value) (l0 : List Int) (many : Int) (r : List Int) (w : World) (ok : Nat → Prop) (hb0 : w.heap[g]? = some (.cells #[u, .int .i64 many] 26 (0, 0))) (ho : Kd.R (Kd.int .u8) 5 w base ok u l0) (h : slices_Clone_byte_byte.f l0 = some r) :
    Calls Try.prog 25 #[.pointer (some ⟨g, 0, none⟩)] w fun e w' => ∃ v_ : Value, e = .returned v_ ∧ Kd.R (Kd.int .u8) 5 w' w.heap.size (fun _ => True) v_ r ∧ Below w.heap.size w w' := by
  have HB := Aside0.mk (Below.refl w.heap.size w)
  obtain ⟨A0, c0, rfl⟩ := Kd.R_slice ho
  have HC := Aside0.mk (Kd.R_reads' ho).2.2
  have HL := Aside0.mk (Kd.R_reads' ho).2.1
  have hc0 : World.cell? w ⟨g, 0, none⟩ = some (Value.slice A0 l0.length c0) := (blk_cell hb0 0).trans rfl
  have Hh := Aside0.mk h
  clear hb0 ho h
  go_enter Try.func25, Try.ntmps25
  go_wp2_with (first | ((with_reducible refine gate_callee (f := 62) rfl ?_); refine goesL_ (some 9) rfl rfl Try.func62 (by kernel_rfl) rfl #[.slice A0 l0.length c0] rfl (by (try simp only [List.map_toArray, List.map_cons, List.map_nil]); first | done | rfl) ?_; (with_reducible refine (slices_Clone_byte_byte.calls _ _ l0 r _ ?side1 HL.out Hh.out).mono ?_); (case side1 => repeat (first | exact HC.out | (with_reducible refine Kd.C_alloc ?_ _) | (with_reducible refine Kd.C_drewN ?_ _) | (with_reducible refine Kd.C_drew ?_))); rintro e w3 ⟨v1, rfl, ho, hb⟩; refine ⟨_, rfl, ?_⟩; have n0_ := Aside0.mk (Kd.R_lower ho (below_size (by repeat (first | (with_reducible first | exact HB.out | apply below_alloc | apply pw_below_drewN | apply below_drew1) | exact HB.out)))); have n1_ := Aside0.mk (below_step (by repeat (first | (with_reducible first | exact HB.out | apply below_alloc | apply pw_below_drewN | apply below_drew1) | exact HB.out)) hb); clear HB; have HO := n0_; have HB := n1_; clear n0_ n1_ ho hb))
  go_ret
  exact ⟨_, rfl, by (with_reducible repeat (first | apply Kd.R_alloc | apply Kd.R_drewN | apply Kd.R_drew)); exact HO.out, by repeat (first | (with_reducible first | exact HB.out | apply below_alloc | apply pw_below_drewN | apply below_drew1) | exact HB.out)⟩
end Go.Proofs.Ythkpnnbjcendcaa.X
