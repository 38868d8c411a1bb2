/- A number's mark laid behind bits, walked. -/
import Derived.Test.YthkpnnbjcendcaaPn
import Derived.Test.YthkpnnbjcendcaaPfo
import Derived.Test.YthkpnnbjcendcaaX18
set_option linter.unusedVariables false
set_option linter.unusedSimpArgs false
open Go.RowKit Go.Proofs.Ythkpnnbjcendcaa.X Go.Proofs.Ythkpnnbjcendcaa.Pl Go.Proofs.Ythkpnnbjcendcaa.Sp Go.Proofs.Ythkpnnbjcendcaa.Pure Go.Proofs.YthkpnnbjcendcaaW.PrintWords Go.Proofs.YthkpnnbjcendcaaW.PrintLast Go.Proofs.YthkpnnbjcendcaaW.PrintMore
namespace Go.Proofs.Ythkpnnbjcendcaa.Sc
theorem fold_calls (n : Int) (w : World) (h : fits64 n) : Calls Try.prog 96 #[.int .i64 n] w fun e w' => e = .returned (.int .u64 (foldN n : Int)) ∧ Below w.heap.size w w' := by
  refine (octs_Fold.calls n _ w (fold_f h)).mono ?_
  rintro e w' ⟨rfl, hd⟩
  exact ⟨rfl, hd.below⟩
theorem putC_ok {m : Nat} {n : Nat} {w : Nat} (hw : w ≤ 64) (hn : n < 2 ^ w) (hm : m + w ≤ 262144) : putC m (n : Int) (w : Int) = 0 := by
  unfold putC
  rw [if_neg (by omega), if_neg, if_neg (by omega)]
  rw [Int.toNat_natCast]
  simp only [Classical.not_not]
  exact_mod_cast hn
theorem putL_ok {L : List Bool} {n : Nat} {w : Nat} (hw : w ≤ 64) (hn : n < 2 ^ w) (hm : L.length + w ≤ 262144) : putL L (n : Int) (w : Int) = L ++ nb n w := by
  unfold putL
  rw [if_pos (putC_ok hw hn hm), Int.toNat_natCast, Int.toNat_natCast]
theorem wid0 (w : World) : (Instr.index 120 (.agg #[.int .i64 0, .int .i64 7, .int .i64 14, .int .i64 32, .int .i64 64]) (.int .i64 0)).run Try.prog w = .ok (.int .i64 0) w := by kernel_rfl
theorem wid1 (w : World) : (Instr.index 120 (.agg #[.int .i64 0, .int .i64 7, .int .i64 14, .int .i64 32, .int .i64 64]) (.int .i64 1)).run Try.prog w = .ok (.int .i64 7) w := by kernel_rfl
theorem wid2 (w : World) : (Instr.index 120 (.agg #[.int .i64 0, .int .i64 7, .int .i64 14, .int .i64 32, .int .i64 64]) (.int .i64 2)).run Try.prog w = .ok (.int .i64 14) w := by kernel_rfl
theorem wid3 (w : World) : (Instr.index 120 (.agg #[.int .i64 0, .int .i64 7, .int .i64 14, .int .i64 32, .int .i64 64]) (.int .i64 3)).run Try.prog w = .ok (.int .i64 32) w := by kernel_rfl
theorem wid4 (w : World) : (Instr.index 120 (.agg #[.int .i64 0, .int .i64 7, .int .i64 14, .int .i64 32, .int .i64 64]) (.int .i64 4)).run Try.prog w = .ok (.int .i64 64) w := by kernel_rfl
/-- What the widths ahead have told. -/
def lowU : Nat → Nat → Prop
  | 0, _ => True
  | 1, u => 0 < u
  | 2, u => 128 ≤ u
  | 3, u => 16384 ≤ u
  | _, u => 4294967296 ≤ u
set_option maxHeartbeats 8000000 in
set_option maxRecDepth 100000 in
theorem mark_calls (g : Nat) (F : Nat → Prop) (L : List Bool) (n : Int) (w0 w : World) (hB : Below w0.heap.size w0 w) (hO : Own w0.heap.size w (bitsR w0.heap.size g L F)) (hn : fits64 n) (hl : L.length + 68 ≤ 262144) :
    Calls Try.prog 63 #[.pointer (some ⟨g, 0, none⟩), .int .i64 n] w fun e w' => e = .returned (.tuple #[]) ∧ Turned w0 w w' F (bitsR w0.heap.size g (L ++ markB n)) := by
  have HB0 := Aside0.mk hB
  have HB := Aside0.mk hB
  have HS := Aside0.mk (Sep.start hO)
  have HN := Aside0.mk hn
  have HL := Aside0.mk hl
  have i0 := wid0
  have i1 := wid1
  have i2 := wid2
  have i3 := wid3
  have i4 := wid4
  obtain ⟨u, hu⟩ : ∃ u, u = foldN n := ⟨_, rfl⟩
  have HU := Aside0.mk hu
  have HU64 := Aside0.mk (show u < 2 ^ 64 from hu ▸ foldN_lt hn)
  clear hB hO hn hl hu
  go_enter Try.func63, Try.ntmps63
  go_wp2_with (first
    | (go_at_call 96; (with_reducible refine (fold_calls n _ HN.out).mono ?_); rintro e w1 ⟨rfl, hb⟩; rw [← HU.out]; have n0_ := Aside0.mk (below_step (by repeat (first | (with_reducible first | exact HB.out | apply below_alloc | apply pw_below_drewN | apply below_drew1) | exact HB.out)) hb); have n1_ := Aside0.mk (Sep.below (by repeat (first | (with_reducible first | exact HS.out | apply sep_alloc | apply sep_drewN | apply sep_drew) | exact HS.out)) hb); clear HB HS; have HB := n0_; have HS := n1_; clear n0_ n1_ hb)
    | (go_at_call 97; (with_reducible refine (steps_widths.calls 0 7 14 32 64 _ rfl).mono ?_); rintro e w2 ⟨rfl, hb⟩; have n0_ := Aside0.mk (below_step (by repeat (first | (with_reducible first | exact HB.out | apply below_alloc | apply pw_below_drewN | apply below_drew1) | exact HB.out)) hb); have n1_ := Aside0.mk (Sep.below (by repeat (first | (with_reducible first | exact HS.out | apply sep_alloc | apply sep_drewN | apply sep_drew) | exact HS.out)) hb); clear HB HS; have HB := n0_; have HS := n1_; clear n0_ n1_ hb))
  go_loopg [10] 5 (fun kq v10 w' => ∃ (i : Nat), v10 = .int .i64 (i : Int) ∧ Aside0 (kq + i = 5 ∧ i ≤ 4 ∧ lowU i u) ∧ Aside0 (Sep w0.heap.size w' [bitsR w0.heap.size g L F, frameR w0.heap.size w (bitsR w0.heap.size g L F).foot]) ∧ Aside0 (Below w0.heap.size w0 w'))
  case atStart => exact ⟨0, rfl, ⟨by omega, by omega, trivial⟩, HS, HB⟩
  case round =>
    clear HS HB
    obtain ⟨i, rfl, HI, HS, HB⟩ := hrel
    obtain ⟨k1, rfl⟩ : ∃ m, gk = m + 1 := ⟨gk - 1, by have := HI.out; omega⟩
    have hi := HI.out.2.1
    rcases (by omega : i = 0 ∨ i = 1 ∨ i = 2 ∨ i = 3 ∨ i = 4) with rfl | rfl | rfl | rfl | rfl
    · clear hi
      by_cases hz0 : u = 0
      · have hz := Aside0.mk hz0
        have hb1 : ((u : Int) != 0) = false := by rw [hz0]; rfl
        have hb2 : ((u : Int) / 1 != 0) = false := by rw [hz0]; rfl
        clear hz0
        have hp1 : putL L 0 1 = L ++ nb 0 1 := putL_ok (n := 0) (w := 1) (by omega) (by decide) (by have := HL.out; omega)
        have hp2 : putL (L ++ nb 0 1) (u : Int) 0 = L ++ markB n := by
          have hu0 : u = 0 := hz.out
          have e : putL (L ++ nb 0 1) (u : Int) 0 = (L ++ nb 0 1) ++ nb u 0 := putL_ok (n := u) (w := 0) (by omega) (by omega) (by rw [List.length_append, nb_length]; have := HL.out; omega)
          rw [e]
          unfold markB
          rw [← HU.out, hu0]
          simp [nb]
        have HP1 := Aside0.mk hp1
        have HP2 := Aside0.mk hp2
        clear hp1 hp2
        go_wp2_with (first
          | (go_at_call 22; (with_reducible refine (put_calls g _ _ _ _ w0 _ HB.out HS.out.own ?ha_ ?hb_).mono ?_); (case ha_ => have := HU64.out; constructor <;> omega); (case hb_ => constructor <;> omega); rintro e w6 ⟨rfl, ht⟩; obtain ⟨F_, hs_⟩ := Turned.sep ht (HS.out) rfl; have n0_ := Aside0.mk (Turned.below ht); clear HB HS ht; have HB := n0_; have HS := Aside0.mk hs_; clear n0_ hs_; (first | rw [HP1.out] at HS | rw [HP2.out] at HS)))
        (first | go_end0 | ((try simp only [Exit.inBlock, Exit.then]); refine bodyPost_ret (results_none rfl _ _ _) rfl ?_))
        exact ⟨rfl, Turned.of_sep HS.out HB0.out HB.out⟩
      · have hz := Aside0.mk hz0
        have hb1 : ((u : Int) != 0) = true := by rw [bne_iff_ne]; omega
        have hb2 : ((u : Int) / 1 != 0) = true := by rw [bne_iff_ne]; omega
        clear hz0
        go_wp2
        go_roundg k1
        case measure => omega
        case rel => exact ⟨1, (by first | rfl | simp), ⟨by have := HI.out; omega, by omega, (show 0 < u from by have := hz.out; omega)⟩, HS, HB⟩
    · clear hi
      by_cases hz0 : u < 128
      · have hz := Aside0.mk hz0
        have hb1 : ((u : Int) / 128 != 0) = false := by rw [bne_eq_false_iff_eq]; omega
        clear hz0
        have hp1 : putL L 2 2 = L ++ nb 2 2 := putL_ok (n := 2) (w := 2) (by omega) (by decide) (by have := HL.out; omega)
        have hp2 : putL (L ++ nb 2 2) (u : Int) 7 = L ++ markB n := by
          have e : putL (L ++ nb 2 2) (u : Int) 7 = (L ++ nb 2 2) ++ nb u 7 := putL_ok (n := u) (w := 7) (by omega) (by have := hz.out; omega) (by rw [List.length_append, nb_length]; have := HL.out; omega)
          have hlow : 0 < u := HI.out.2.2
          rw [e, List.append_assoc]
          unfold markB
          dsimp only
          rw [← HU.out, if_neg (by omega), if_pos (by have := hz.out; omega)]
        have HP1 := Aside0.mk hp1
        have HP2 := Aside0.mk hp2
        clear hp1 hp2
        go_wp2_with (first
          | (go_at_call 22; (with_reducible refine (put_calls g _ _ _ _ w0 _ HB.out HS.out.own ?ha_ ?hb_).mono ?_); (case ha_ => have := HU64.out; constructor <;> omega); (case hb_ => constructor <;> omega); rintro e w6 ⟨rfl, ht⟩; obtain ⟨F_, hs_⟩ := Turned.sep ht (HS.out) rfl; have n0_ := Aside0.mk (Turned.below ht); clear HB HS ht; have HB := n0_; have HS := Aside0.mk hs_; clear n0_ hs_; (first | rw [HP1.out] at HS | rw [HP2.out] at HS)))
        (first | go_end0 | ((try simp only [Exit.inBlock, Exit.then]); refine bodyPost_ret (results_none rfl _ _ _) rfl ?_))
        exact ⟨rfl, Turned.of_sep HS.out HB0.out HB.out⟩
      · have hz := Aside0.mk hz0
        have hb1 : ((u : Int) / 128 != 0) = true := by rw [bne_iff_ne]; omega
        clear hz0
        go_wp2
        go_roundg k1
        case measure => omega
        case rel => exact ⟨2, (by first | rfl | simp), ⟨by have := HI.out; omega, by omega, (show 128 ≤ u from by have := hz.out; omega)⟩, HS, HB⟩
    · clear hi
      by_cases hz0 : u < 16384
      · have hz := Aside0.mk hz0
        have hb1 : ((u : Int) / 16384 != 0) = false := by rw [bne_eq_false_iff_eq]; omega
        clear hz0
        have hp1 : putL L 6 3 = L ++ nb 6 3 := putL_ok (n := 6) (w := 3) (by omega) (by decide) (by have := HL.out; omega)
        have hp2 : putL (L ++ nb 6 3) (u : Int) 14 = L ++ markB n := by
          have e : putL (L ++ nb 6 3) (u : Int) 14 = (L ++ nb 6 3) ++ nb u 14 := putL_ok (n := u) (w := 14) (by omega) (by have := hz.out; omega) (by rw [List.length_append, nb_length]; have := HL.out; omega)
          have hlow : 128 ≤ u := HI.out.2.2
          rw [e, List.append_assoc]
          unfold markB
          dsimp only
          rw [← HU.out, if_neg (by omega), if_neg (by omega), if_pos (by have := hz.out; omega)]
        have HP1 := Aside0.mk hp1
        have HP2 := Aside0.mk hp2
        clear hp1 hp2
        go_wp2_with (first
          | (go_at_call 22; (with_reducible refine (put_calls g _ _ _ _ w0 _ HB.out HS.out.own ?ha_ ?hb_).mono ?_); (case ha_ => have := HU64.out; constructor <;> omega); (case hb_ => constructor <;> omega); rintro e w6 ⟨rfl, ht⟩; obtain ⟨F_, hs_⟩ := Turned.sep ht (HS.out) rfl; have n0_ := Aside0.mk (Turned.below ht); clear HB HS ht; have HB := n0_; have HS := Aside0.mk hs_; clear n0_ hs_; (first | rw [HP1.out] at HS | rw [HP2.out] at HS)))
        (first | go_end0 | ((try simp only [Exit.inBlock, Exit.then]); refine bodyPost_ret (results_none rfl _ _ _) rfl ?_))
        exact ⟨rfl, Turned.of_sep HS.out HB0.out HB.out⟩
      · have hz := Aside0.mk hz0
        have hb1 : ((u : Int) / 16384 != 0) = true := by rw [bne_iff_ne]; omega
        clear hz0
        go_wp2
        go_roundg k1
        case measure => omega
        case rel => exact ⟨3, (by first | rfl | simp), ⟨by have := HI.out; omega, by omega, (show 16384 ≤ u from by have := hz.out; omega)⟩, HS, HB⟩
    · clear hi
      by_cases hz0 : u < 4294967296
      · have hz := Aside0.mk hz0
        have hb1 : ((u : Int) / 4294967296 != 0) = false := by rw [bne_eq_false_iff_eq]; omega
        clear hz0
        have hp1 : putL L 14 4 = L ++ nb 14 4 := putL_ok (n := 14) (w := 4) (by omega) (by decide) (by have := HL.out; omega)
        have hp2 : putL (L ++ nb 14 4) (u : Int) 32 = L ++ markB n := by
          have e : putL (L ++ nb 14 4) (u : Int) 32 = (L ++ nb 14 4) ++ nb u 32 := putL_ok (n := u) (w := 32) (by omega) (by have := hz.out; omega) (by rw [List.length_append, nb_length]; have := HL.out; omega)
          have hlow : 16384 ≤ u := HI.out.2.2
          rw [e, List.append_assoc]
          unfold markB
          dsimp only
          rw [← HU.out, if_neg (by omega), if_neg (by omega), if_neg (by omega), if_pos (by have := hz.out; omega)]
        have HP1 := Aside0.mk hp1
        have HP2 := Aside0.mk hp2
        clear hp1 hp2
        go_wp2_with (first
          | (go_at_call 22; (with_reducible refine (put_calls g _ _ _ _ w0 _ HB.out HS.out.own ?ha_ ?hb_).mono ?_); (case ha_ => have := HU64.out; constructor <;> omega); (case hb_ => constructor <;> omega); rintro e w6 ⟨rfl, ht⟩; obtain ⟨F_, hs_⟩ := Turned.sep ht (HS.out) rfl; have n0_ := Aside0.mk (Turned.below ht); clear HB HS ht; have HB := n0_; have HS := Aside0.mk hs_; clear n0_ hs_; (first | rw [HP1.out] at HS | rw [HP2.out] at HS)))
        (first | go_end0 | ((try simp only [Exit.inBlock, Exit.then]); refine bodyPost_ret (results_none rfl _ _ _) rfl ?_))
        exact ⟨rfl, Turned.of_sep HS.out HB0.out HB.out⟩
      · have hz := Aside0.mk hz0
        have hb1 : ((u : Int) / 4294967296 != 0) = true := by rw [bne_iff_ne]; omega
        clear hz0
        go_wp2
        go_roundg k1
        case measure => omega
        case rel => exact ⟨4, (by first | rfl | simp), ⟨by have := HI.out; omega, by omega, (show 4294967296 ≤ u from by have := hz.out; omega)⟩, HS, HB⟩
    · have hp1 : putL L 15 4 = L ++ nb 15 4 := putL_ok (n := 15) (w := 4) (by omega) (by decide) (by have := HL.out; omega)
      have hp2 : putL (L ++ nb 15 4) (u : Int) 64 = L ++ markB n := by
        have e : putL (L ++ nb 15 4) (u : Int) 64 = (L ++ nb 15 4) ++ nb u 64 := putL_ok (n := u) (w := 64) (by omega) (by exact HU64.out) (by rw [List.length_append, nb_length]; have := HL.out; omega)
        have hlow : 4294967296 ≤ u := HI.out.2.2
        rw [e, List.append_assoc]
        unfold markB
        dsimp only
        rw [← HU.out, if_neg (by omega), if_neg (by omega), if_neg (by omega), if_neg (by omega)]
      clear hi
      have HP1 := Aside0.mk hp1
      have HP2 := Aside0.mk hp2
      clear hp1 hp2
      go_wp2_with (first
        | (go_at_call 22; (with_reducible refine (put_calls g _ _ _ _ w0 _ HB.out HS.out.own ?ha_ ?hb_).mono ?_); (case ha_ => have := HU64.out; constructor <;> omega); (case hb_ => constructor <;> omega); rintro e w6 ⟨rfl, ht⟩; obtain ⟨F_, hs_⟩ := Turned.sep ht (HS.out) rfl; have n0_ := Aside0.mk (Turned.below ht); clear HB HS ht; have HB := n0_; have HS := Aside0.mk hs_; clear n0_ hs_; (first | rw [HP1.out] at HS | rw [HP2.out] at HS)))
      (first | go_end0 | ((try simp only [Exit.inBlock, Exit.then]); refine bodyPost_ret (results_none rfl _ _ _) rfl ?_))
      exact ⟨rfl, Turned.of_sep HS.out HB0.out HB.out⟩
end Go.Proofs.Ythkpnnbjcendcaa.Sc
