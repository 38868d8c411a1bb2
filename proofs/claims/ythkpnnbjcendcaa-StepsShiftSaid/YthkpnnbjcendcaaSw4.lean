/- The head of the laws of layer 4. -/
import Derived.Test.YthkpnnbjcendcaaSpt
import Derived.Test.YthkpnnbjcendcaaBof
set_option linter.unusedVariables false
set_option linter.unusedSimpArgs false
open Go.RowKit Go.Proofs.Ythkpnnbjcendcaa.X Go.Proofs.Ythkpnnbjcendcaa.Pl Go.Proofs.Ythkpnnbjcendcaa.Sp Go.Proofs.Ythkpnnbjcendcaa.Pure Go.Proofs.YthkpnnbjcendcaaW.PrintWords Go.Proofs.YthkpnnbjcendcaaW.PrintLast Go.Proofs.YthkpnnbjcendcaaW.PrintMore
namespace Go.Proofs.Ythkpnnbjcendcaa.Sc
theorem shown4_put : putR [⟨5, 7⟩, ⟨6, 7⟩] = ([2, 133, 67, 160, 240, 208], 0) := by
  have h1 : pack (marksP 0 0 0 0 [⟨5, 7⟩, ⟨6, 7⟩]) = [133, 67, 160, 240, 208] := by decide +kernel
  have h2 : rightB [⟨5, 7⟩, ⟨6, 7⟩] = true := by decide +kernel
  unfold putR
  rw [if_neg (by decide), h2, if_neg (by decide)]
  unfold putB
  rw [h1, varint_small (by decide)]
  rfl
theorem shown4_bits : marigraphlaw04_bitsOf.f 100 = some [133, 67, 160, 240, 208] := by decide +kernel
theorem shown4_str : ((strOfNums [2, 133, 67, 160, 240, 208]).toList == ((⟨#[2]⟩ : ByteArray) ++ strOfNums [133, 67, 160, 240, 208]).toList) = true := by decide +kernel
theorem shown4_size : (9223372036854775807 < 1 + (strOfNums [133, 67, 160, 240, 208]).size) = False := eq_false (by decide +kernel)
theorem sput_two (A : Option Addr) (c : Nat) (w : World) (hr : Kd.C k52 w A 2 [⟨5, 7⟩, ⟨6, 7⟩]) (hc : 2 ≤ c) :
    Calls Try.prog 29 #[.slice A 2 c] w fun e w' => ∃ v, e = .returned (.tuple #[v, .int .i64 0]) ∧ Kd.R (Kd.int .u8) 5 w' w.heap.size (fun _ => True) v [2, 133, 67, 160, 240, 208] ∧ Below w.heap.size w w' := by
  have := sput_calls A c [⟨5, 7⟩, ⟨6, 7⟩] w hr hc (by decide) (by intro y hy; simp only [List.mem_cons, List.not_mem_nil, or_false] at hy; rcases hy with rfl | rfl <;> (unfold fits64; decide))
  rw [shown4_put] at this
  exact this
set_option maxHeartbeats 8000000 in
set_option maxRecDepth 100000 in
theorem shown4_calls (w : World) : Calls Try.prog 32 #[] w fun e w' => e = .returned (.bool true) ∧ Below w.heap.size w w' := by
  have HB := Aside0.mk (Below.refl w.heap.size w)
  have HS := Aside0.mk (Sep.nil w.heap.size w)
  go_enter Try.func32, Try.ntmps32
  go_wp2_with (first
    | ((with_reducible refine gate_dst (N := 6) rfl ?_); (try (refine gate_guard (by rfl) ?_; dsimp only)); (refine wp_lit k52 (w0 := w) ?hg_ (N := 6) ?hd_ 52 (([(⟨5, 7⟩ : S52), (⟨6, 7⟩ : S52)] : List S52)) [.int .i64 5, .int .i64 7, .int .i64 6, .int .i64 7] ?hr_ ?hp_ (by repeat (first | (with_reducible first | exact HS.out | apply sep_alloc | apply sep_drewN | apply sep_drew) | exact HS.out)) (by repeat (first | (with_reducible first | exact HB.out | apply below_alloc | apply pw_below_drewN | apply below_drew1) | exact HB.out)) (by simp) ?_; (case hd_ => rfl); (case hg_ => rfl); (case hr_ => first | (go_simp; done) | (go_simp; rfl)); (case hp_ => exact (Reps.c2 (show Kd.M k52 _ _ _ (⟨5, 7⟩ : S52) [.int .i64 5, .int .i64 7] from (k52_mkM _ _ _ (⟨5, 7⟩ : S52))) (Reps.c2 (show Kd.M k52 _ _ _ (⟨6, 7⟩ : S52) [.int .i64 6, .int .i64 7] from (k52_mkM _ _ _ (⟨6, 7⟩ : S52))) (Reps.none _ _))))); intro v_ w_ F_ hs_ hb_; clear HB HS; have HB := Aside0.mk hb_; have HS := Aside0.mk hs_; clear hs_ hb_; obtain ⟨A_, c_, e_⟩ := Kd.R_slice (Sep.R HS.out); subst e_; (have HC2 := Aside0.mk (show Kd.C k52 _ A_ 2 [(⟨5, 7⟩ : S52), (⟨6, 7⟩ : S52)] from (Kd.R_reads' (Sep.R HS.out)).2.2); have HC3 := Aside0.mk (show 2 ≤ c_ from (Kd.R_reads' (Sep.R HS.out)).2.1)))
    | ((with_reducible refine gate_dst (N := 7) rfl ?_); (try (refine gate_guard (by rfl) ?_; dsimp only)); refine goesL_ (some 7) rfl rfl Try.func29 (by kernel_rfl) rfl #[.slice A_ 2 c_] rfl (by (try simp only [List.map_toArray, List.map_cons, List.map_nil]); first | done | rfl) ?_; (with_reducible refine (sput_two A_ c_ _ HC2.out HC3.out).mono ?_); rintro e w2 ⟨v, rfl, ho, hb⟩; refine ⟨_, rfl, ?_⟩; obtain ⟨A3, c3, e_⟩ := Kd.R_slice ho; subst e_; obtain ⟨F3, hs_⟩ := Sep.newrow (by repeat (first | (with_reducible first | exact HS.out | apply sep_alloc | apply sep_drewN | apply sep_drew) | exact HS.out)) hb (below_size (by repeat (first | (with_reducible first | exact HB.out | apply below_alloc | apply pw_below_drewN | apply below_drew1) | exact HB.out))) ho; have n0_ := Aside0.mk (below_step (by repeat (first | (with_reducible first | exact HB.out | apply below_alloc | apply pw_below_drewN | apply below_drew1) | exact HB.out)) hb); clear HB HS hb ho; have HB := n0_; have HS := Aside0.mk hs_; clear n0_ hs_))
  have hcv := own_string (P := Try.prog) Try.underlying24 Try.underlying5 Try.underlying9 (Kd.own_of_R (Sep.R HS.out))
  have hst := shown4_str
  have hsz := shown4_size
  refine start_ (n := 11) (S := fun w' => (convert 24 9 (.slice A3 6 c3)).run Try.prog w' = .ok (.string (strOfNums [2, 133, 67, 160, 240, 208])) w') (ds := []) #[false, false, false, false, false, false, false, false, false, false, false] (by kernel_rfl) rfl rfl (own_string Try.underlying24 Try.underlying5 Try.underlying9 (Kd.own_of_R (Sep.R (sep_drew HS.out)))) (fun hHeld => ?_)
  have n0_ := Aside0.mk (below_drew HB.out)
  have n1_ := Aside0.mk (sep_drew HS.out)
  clear HB HS
  have HB := n0_
  have HS := n1_
  clear n0_ n1_
  generalize (World.drew w2) = wd_ at HB HS hHeld ⊢
  refine pure_ (i := 0) (N := some 10) (v := ?_) (a' := ?_) #[true, false, false, false, false, false, false, false, false, false, false] rfl rfl (by kernel_rfl) (fun _ _ _ h => h) (Or.inl ⟨by rfl, ?_⟩) ?_ ?_
  rotate_left
  · intro w'
    go_simp
    with_reducible rfl
  rotate_left
  · simp only [Act.put, List.setIfInBounds_toArray, List.set_cons_zero, List.set_cons_succ, i64_w, i32_w]
    rfl
  refine take_ (i := 1) (N := some 11) (v := ?_) (a' := ?_) #[true, true, false, false, false, false, false, false, false, false, false] rfl rfl (by kernel_rfl) (fun _ _ _ h => h) (Or.inl ⟨by rfl, ?_⟩) hHeld ?_ ?_
  rotate_left
  · intro w' s0
    go_simp
    with_reducible rfl
  rotate_left
  · simp only [Act.put, List.setIfInBounds_toArray, List.set_cons_zero, List.set_cons_succ, i64_w, i32_w]
    rfl
  refine one_ (i := 2) (N := some 12) #[true, true, true, false, false, false, false, false, false, false, false] rfl rfl (by kernel_rfl) (by decide) (fun K hK => ?_)
  refine goes_ Try.func69 (by kernel_rfl) rfl #[] (by rfl) rfl rfl (by first | (simp only [List.map_toArray, List.map_cons, List.map_nil]; done) | (simp only [List.map_toArray, List.map_cons, List.map_nil]; rfl) | rfl) ?_; with_reducible refine (marigraphlaw04_bitsOf.calls 100 _ _ shown4_bits).mono ?_; rintro e w8 ⟨v8, rfl, ho, hb⟩; refine ⟨_, rfl, ?_⟩
  have HO8 := Aside0.mk ho
  clear ho
  have n0_ := Aside0.mk (below_step (by repeat (first | (with_reducible first | exact HB.out | apply below_alloc | apply pw_below_drewN | apply below_drew1) | exact HB.out)) hb); have n1_ := Aside0.mk (Sep.below (by repeat (first | (with_reducible first | exact HS.out | apply sep_alloc | apply sep_drewN | apply sep_drew) | exact HS.out)) hb); clear HB HS; have HB := n0_; have HS := n1_; clear n0_ n1_ hb
  refine hK.out _ _ (own_string Try.underlying24 Try.underlying5 Try.underlying9 (Kd.own_of_R (Sep.R HS.out))) (fun hHeld => ?_)
  clear hK K
  refine norm_ (a' := ?_) ?_ ?_
  rotate_left
  · show Act.put _ (some 12) _ = _
    simp only [Act.put, List.setIfInBounds_toArray, List.set_cons_zero, List.set_cons_succ, i64_w, i32_w]
    rfl
  refine one_ (i := 3) (N := some 13) #[true, true, true, true, false, false, false, false, false, false, false] rfl rfl (by kernel_rfl) (by decide) (fun K hK => ?_)
  have hcv8 := own_string (P := Try.prog) Try.underlying24 Try.underlying5 Try.underlying9 (Kd.own_of_R HO8.out)
  refine value_ (w1 := ?_) (v := ?_) (by rfl) rfl ?_ ?_
  rotate_left 2
  · go_simp
    constructor
    · rfl
    · rfl
  clear hcv8
  refine hK.out _ _ (own_string Try.underlying24 Try.underlying5 Try.underlying9 (Kd.own_of_R (Sep.R HS.out))) (fun hHeld => ?_)
  clear hK K
  refine norm_ (a' := ?_) ?_ ?_
  rotate_left
  · show Act.put _ (some 13) _ = _
    simp only [Act.put, List.setIfInBounds_toArray, List.set_cons_zero, List.set_cons_succ, i64_w, i32_w]
    rfl
  refine pure_ (i := 4) (N := some 14) (v := ?_) (a' := ?_) #[true, true, true, true, true, false, false, false, false, false, false] rfl rfl (by kernel_rfl) (fun _ _ _ h => h) (Or.inl ⟨by rfl, ?_⟩) ?_ ?_
  rotate_left
  · intro w'
    go_simp
    with_reducible rfl
  rotate_left
  · simp only [Act.put, List.setIfInBounds_toArray, List.set_cons_zero, List.set_cons_succ, i64_w, i32_w]
    rfl
  refine pure_ (i := 5) (N := some 15) (v := ?_) (a' := ?_) #[true, true, true, true, true, true, false, false, false, false, false] rfl rfl (by kernel_rfl) (fun _ _ _ h => h) (Or.inl ⟨by rfl, ?_⟩) ?_ ?_
  rotate_left
  · intro w'
    go_simp
    with_reducible rfl
  rotate_left
  · simp only [Act.put, List.setIfInBounds_toArray, List.set_cons_zero, List.set_cons_succ, i64_w, i32_w]
    rfl
  refine pure_ (i := 6) (N := some 16) (v := ?_) (a' := ?_) #[true, true, true, true, true, true, true, false, false, false, false] rfl rfl (by kernel_rfl) (fun _ _ _ h => h) (Or.inl ⟨by rfl, ?_⟩) ?_ ?_
  rotate_left
  · intro w'
    go_simp
    with_reducible rfl
  rotate_left
  · simp only [Act.put, List.setIfInBounds_toArray, List.set_cons_zero, List.set_cons_succ, i64_w, i32_w]
    rfl
  refine pure_ (i := 7) (N := some 17) (v := ?_) (a' := ?_) #[true, true, true, true, true, true, true, true, false, false, false] rfl rfl (by kernel_rfl) (fun _ _ _ h => h) (Or.inl ⟨by rfl, ?_⟩) ?_ ?_
  rotate_left
  · intro w'
    go_simp
    with_reducible rfl
  rotate_left
  · simp only [Act.put, List.setIfInBounds_toArray, List.set_cons_zero, List.set_cons_succ, i64_w, i32_w]
    rfl
  refine pure_ (i := 8) (N := some 18) (v := ?_) (a' := ?_) #[true, true, true, true, true, true, true, true, true, false, false] rfl rfl (by kernel_rfl) (fun _ _ _ h => h) (Or.inl ⟨by rfl, ?_⟩) ?_ ?_
  rotate_left
  · intro w'
    go_simp
    with_reducible rfl
  rotate_left
  · simp only [Act.put, List.setIfInBounds_toArray, List.set_cons_zero, List.set_cons_succ, i64_w, i32_w]
    rfl
  refine pure_ (i := 9) (N := some 19) (v := ?_) (a' := ?_) #[true, true, true, true, true, true, true, true, true, true, false] rfl rfl (by kernel_rfl) (fun _ _ _ h => h) (Or.inl ⟨by rfl, ?_⟩) ?_ ?_
  rotate_left
  · intro w'
    go_simp
    with_reducible rfl
  rotate_left
  · simp only [Act.put, List.setIfInBounds_toArray, List.set_cons_zero, List.set_cons_succ, i64_w, i32_w]
    rfl
  refine pure_ (i := 10) (N := some 0) (v := ?_) (a' := ?_) #[true, true, true, true, true, true, true, true, true, true, true] rfl rfl (by kernel_rfl) (fun _ _ _ h => h) (Or.inl ⟨by rfl, ?_⟩) ?_ ?_
  rotate_left
  · intro w'
    go_simp
    with_reducible rfl
  rotate_left
  · simp only [Act.put, List.setIfInBounds_toArray, List.set_cons_zero, List.set_cons_succ, i64_w, i32_w]
    rfl
  refine done_ (by kernel_rfl) ?_
  go_wp2
  go_ret
  exact ⟨rfl, HB.out⟩
end Go.Proofs.Ythkpnnbjcendcaa.Sc
