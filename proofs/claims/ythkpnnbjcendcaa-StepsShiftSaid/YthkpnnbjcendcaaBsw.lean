/- The head of the laws of layer 2: it tells true. -/
import Derived.Test.YthkpnnbjcendcaaBsh
namespace Go.Proofs.Ythkpnnbjcendcaa.X
open Go.RowKit Go.Proofs.YthkpnnbjcendcaaW.PrintWords Go.Proofs.YthkpnnbjcendcaaW.PrintLast Go.Proofs.YthkpnnbjcendcaaW.PrintMore
attribute [local go_sem] max2_int min2_int max_two min_two max_three min_three max_four min_four
set_option linter.unusedVariables false
set_option linter.unusedSimpArgs false

theorem shown_put1 : bits_Bits_Put.f 9 [] 0 5 3 = some (0, [160], 3) := by decide +kernel
theorem shown_put2 : bits_Bits_Put.f 9 [160] 3 1 2 = some (0, [168], 5) := by decide +kernel
theorem shown_clone : slices_Clone_byte_byte.f [168] = some [168] := by decide +kernel
theorem shown_at : bits_At.f 9 [168] 3 2 = some (1, 0) := by decide +kernel
theorem shown_str : strOfNums [168] = { data := #[168] } := by decide +kernel
def marigraphlaw02_shown.f : Option Bool := some true
set_option maxHeartbeats 8000000 in
set_option maxRecDepth 100000 in
theorem marigraphlaw02_shown.calls (r : Bool) (w : World) (h : marigraphlaw02_shown.f = some r) :
    Calls Try.prog 20 #[] w fun e w' => e = .returned (.bool r) ∧ Below w.heap.size w w' := by
  obtain rfl := Option.some.inj h
  have HB := Aside0.mk (Below.refl w.heap.size w)
  clear h
  have hstr := shown_str
  go_enter Try.func20, Try.ntmps20
  go_wp2_with (first
    | ((with_reducible refine gate_dst (N := 1) rfl ?_); (try (refine gate_guard (by rfl) ?_; dsimp only)); refine box_event ?hg (N := 1) ?hd (cs := #[.slice none 0 0, .int .i64 0]) (t := 26) ?hr ?_; (case hd => rfl); (case hg => rfl); (case hr => first | (go_simp; done) | (go_simp; rfl)); intro g hg w1 hbox hb; have n1_ := Aside0.mk ((by rw [hg]; exact (below_size (by repeat (first | (with_reducible first | exact HB.out | apply below_alloc | apply pw_below_drewN | apply below_drew1) | exact HB.out))) : w.heap.size ≤ g)); have n0_ := Aside0.mk (below_step (by repeat (first | (with_reducible first | exact HB.out | apply below_alloc | apply pw_below_drewN | apply below_drew1) | exact HB.out)) hb); have n2_ := Aside0.mk hbox; have n3_ := Aside0.mk (Kd.R_nil (Kd.int .u8) 5 w1 w.heap.size (fun k_ => k_ ≠ g)); clear HB; have HB := n0_; have HG := n1_; have BK := n2_; have HO := n3_; clear n0_ n1_ n2_ n3_ hb hbox hg)
    | ((with_reducible refine gate_dst (N := 6) rfl ?_); refine goesL_ (some 6) rfl rfl Try.func22 (by kernel_rfl) rfl #[.pointer (some ⟨g, 0, none⟩), .int .u64 5, .int .i64 3] rfl (by (try simp only [List.map_toArray, List.map_cons, List.map_nil]); first | done | rfl) ?_; (with_reducible refine (bits_Bits_Put.calls 9 g _ [] 0 5 3 0 [160] 3 w _ HB.out HG.out BK.out HO.out shown_put1).mono ?_); rintro e w2 ⟨v1, rfl, hbox, ho, hb, hk⟩; refine ⟨_, rfl, ?_⟩; clear HB BK HO hk; have HB := Aside0.mk hb; have BK := Aside0.mk hbox; have HO := Aside0.mk (show Kd.R (Kd.int .u8) 5 w2 w.heap.size (fun k_ => k_ ≠ g) v1 [160] from Kd.R_mono ho (fun k_ hk => hk.1)); clear hb hbox ho)
    | ((with_reducible refine gate_dst (N := 7) rfl ?_); refine goesL_ (some 7) rfl rfl Try.func22 (by kernel_rfl) rfl #[.pointer (some ⟨g, 0, none⟩), .int .u64 1, .int .i64 2] rfl (by (try simp only [List.map_toArray, List.map_cons, List.map_nil]); first | done | rfl) ?_; (with_reducible refine (bits_Bits_Put.calls 9 g _ [160] 3 1 2 0 [168] 5 w _ HB.out HG.out BK.out HO.out shown_put2).mono ?_); rintro e w3 ⟨v2, rfl, hbox, ho, hb, hk⟩; refine ⟨_, rfl, ?_⟩; clear HB BK HO hk; have HB := Aside0.mk hb; have BK := Aside0.mk hbox; have HO := Aside0.mk (show Kd.R (Kd.int .u8) 5 w3 w.heap.size (fun k_ => k_ ≠ g) v2 [168] from Kd.R_mono ho (fun k_ hk => hk.1)); clear hb hbox ho)
    | ((with_reducible refine gate_dst (N := 9) rfl ?_); refine goesL_ (some 9) rfl rfl Try.func25 (by kernel_rfl) rfl #[.pointer (some ⟨g, 0, none⟩)] rfl (by (try simp only [List.map_toArray, List.map_cons, List.map_nil]); first | done | rfl) ?_; (with_reducible refine (bits_Bits_Bytes.calls g _ _ [168] 5 [168] _ _ BK.out HO.out shown_clone).mono ?_); rintro e w4 ⟨v3, rfl, ho, hb⟩; refine ⟨_, rfl, ?_⟩; have n0_ := Aside0.mk (below_step HB.out hb); have n1_ := Aside0.mk (blk_below BK.out hb); have n2_ := Aside0.mk (Kd.R_below HO.out hb); obtain ⟨A3, c3, e3⟩ := Kd.R_slice ho; subst e3; have HO3 := Aside0.mk ho; clear HB BK HO; have HB := n0_; have BK := n1_; have HO := n2_; clear n0_ n1_ n2_ hb ho)
    | ((with_reducible refine gate_dst (N := 10) rfl ?_); refine goesL_ (some 10) rfl rfl Try.func27 (by kernel_rfl) rfl #[.slice A3 ([168] : List Int).length c3, .int .i64 3, .int .i64 2] rfl (by (try simp only [List.map_toArray, List.map_cons, List.map_nil]); first | done | rfl) ?_; (with_reducible refine (bits_At.calls 9 A3 c3 [168] 3 2 1 0 _ (Kd.R_reads' HO3.out).2.2 (Kd.R_reads' HO3.out).2.1 shown_at).mono ?_); rintro e w5 ⟨rfl, hb⟩; refine ⟨_, rfl, ?_⟩; have n0_ := Aside0.mk (below_step HB.out hb); have n1_ := Aside0.mk (blk_below BK.out hb); have n2_ := Aside0.mk (Kd.R_below HO.out hb); clear HB BK HO HO3; have HB := n0_; have BK := n1_; have HO := n2_; clear n0_ n1_ n2_ hb)
    | ((with_reducible refine gate_dst (N := 20) rfl ?_); (try (refine gate_guard (by rfl) ?_; dsimp only)); refine goesL_ (some 20) rfl rfl Try.func25 (by kernel_rfl) rfl #[.pointer (some ⟨g, 0, none⟩)] rfl (by (try simp only [List.map_toArray, List.map_cons, List.map_nil]); first | done | rfl) ?_; (with_reducible refine (bits_Bits_Bytes.calls g _ _ [168] 5 [168] _ _ BK.out HO.out shown_clone).mono ?_); rintro e w6 ⟨v4, rfl, ho, hb⟩; refine ⟨_, rfl, ?_⟩; have n0_ := Aside0.mk (below_step HB.out hb); have n1_ := Aside0.mk (blk_below BK.out hb); have hcv := own_string (P := Try.prog) Try.underlying24 Try.underlying5 Try.underlying9 (Kd.own_of_R ho); clear HB BK HO; have HB := n0_; have BK := n1_; clear n0_ n1_ hb ho)
    | ((with_reducible refine gate_dst (N := 33) rfl ?_); (try (refine gate_guard (by rfl) ?_; dsimp only)); refine goesL_ (some 33) rfl rfl Try.func24 (by kernel_rfl) rfl #[.pointer (some ⟨g, 0, none⟩)] rfl (by (try simp only [List.map_toArray, List.map_cons, List.map_nil]); first | done | rfl) ?_; (with_reducible refine (bits_Bits_Len.calls g _ 5 _ BK.out).mono ?_); rintro e w7 ⟨rfl, hb⟩; refine ⟨_, rfl, ?_⟩; have n0_ := Aside0.mk (below_step HB.out hb); clear HB; have HB := n0_; clear n0_ hb))
  go_ret
  exact ⟨rfl, by repeat (first | (with_reducible first | exact HB.out | apply below_alloc | apply pw_below_drewN | apply below_drew1) | exact HB.out)⟩
end Go.Proofs.Ythkpnnbjcendcaa.X
