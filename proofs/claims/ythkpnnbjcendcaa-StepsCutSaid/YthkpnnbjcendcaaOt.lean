/- octs' taker, walked: New, Left, End, Num. -/
import Derived.Test.YthkpnnbjcendcaaPnu
set_option linter.unusedVariables false
set_option linter.unusedSimpArgs false
open Go.RowKit Go.Proofs.Ythkpnnbjcendcaa.X Go.Proofs.Ythkpnnbjcendcaa.Pl Go.Proofs.Ythkpnnbjcendcaa.Sp Go.Proofs.Ythkpnnbjcendcaa.Pure Go.Proofs.YthkpnnbjcendcaaW.PrintWords Go.Proofs.YthkpnnbjcendcaaW.PrintLast Go.Proofs.YthkpnnbjcendcaaW.PrintMore
namespace Go.Proofs.Ythkpnnbjcendcaa.Sp
theorem Sep.join {base : Nat} {w w' : World} {rs qs : List Res} (h : Sep base w rs) (hb : Below w.heap.size w w') (hB : base ≤ w.heap.size) (hq : Sep w.heap.size w' qs) : Sep base w' (qs ++ rs) := by
  induction qs with
  | nil => exact h.below hb
  | cons q qs ih =>
    refine ⟨hq.1.lower hB, ?_, ih hq.2.2⟩
    intro x hx k hk hk'
    rcases List.mem_append.1 hx with hx | hx
    · exact hq.2.1 x hx k hk hk'
    · have := h.hi x hx k hk'
      have := hq.1.lo k hk
      omega
end Go.Proofs.Ythkpnnbjcendcaa.Sp
namespace Go.Proofs.Ythkpnnbjcendcaa.Sc
/-- A taker in memory. -/
abbrev otR (g : Nat) (v : Value) (bad : Bool) : Res := box g #[v, .bool bad] 125
theorem len64_calls (n : Nat) (w : World) (hn : n < 2 ^ 64) : Calls Try.prog 99 #[.int .u64 (n : Int)] w fun e w' => ∃ L : Nat, e = .returned (.int .i64 (L : Int)) ∧ Long n L ∧ L ≤ 64 ∧ Below w.heap.size w w' := by
  obtain ⟨L, h1, h2, h3⟩ := len_ev 0 n hn
  refine (bits_Len64.calls 1 _ _ w h1).mono ?_
  rintro e w' ⟨rfl, hd⟩
  exact ⟨L, rfl, h2, h3, hd.below⟩
set_option maxRecDepth 100000 in
theorem ofail_calls (g : Nat) (v : Value) (bad : Bool) (w0 w : World) (hB : Below w0.heap.size w0 w) (hO : Own w0.heap.size w (otR g v bad)) :
    Calls Try.prog 100 #[.pointer (some ⟨g, 0, none⟩)] w fun e w' => e = .returned (.tuple #[]) ∧ Turned w0 w w' (fun k => k = g) (fun _ => otR g (.slice none 0 0) true) := by
  have HB := Aside0.mk hB
  have HS := Aside0.mk (Sep.start hO)
  have hc0 := Sep.c20 HS.out
  have hc1 := Sep.c21 HS.out
  have hf0 := Sep.free HS.out 0
  have hf1 := Sep.free HS.out 1
  clear hB hO
  go_enter Try.func100, Try.ntmps100
  go_wp2
  first | go_end0 | ((try simp only [Exit.inBlock, Exit.then]); refine bodyPost_ret (results_none rfl _ _ _) rfl ?_)
  exact ⟨rfl, Turned.of_sep (mk := fun _ => otR g (.slice none 0 0) true) (F' := fun _ => True) ((HS.out.s20 _).s21 _) HB.out (below_set (below_set HB.out HS.out.ge) HS.out.ge)⟩
set_option maxRecDepth 100000 in
theorem left_calls (base g : Nat) (A : Option Addr) (n c : Nat) (bad : Bool) (w : World) (hO : Own base w (otR g (.slice A n c) bad)) :
    Calls Try.prog 75 #[.pointer (some ⟨g, 0, none⟩)] w fun e w' => e = .returned (.int .i64 (n : Int)) ∧ Below w.heap.size w w' := by
  have HB := Aside0.mk (Below.refl w.heap.size w)
  have hc0 := Sep.c20 (⟨hO, (fun q hq => by cases hq), trivial⟩ : Sep base w [otR g (.slice A n c) bad])
  clear hO
  go_enter Try.func75, Try.ntmps75
  go_wp2
  go_ret
  exact ⟨rfl, HB.out⟩
set_option maxRecDepth 100000 in
theorem end_calls (base g : Nat) (A : Option Addr) (n c : Nat) (bad : Bool) (w : World) (hO : Own base w (otR g (.slice A n c) bad)) :
    Calls Try.prog 76 #[.pointer (some ⟨g, 0, none⟩)] w fun e w' => e = .returned (.int .i64 (if bad = true ∨ 0 < n then 6 else 0)) ∧ Below w.heap.size w w' := by
  have HB := Aside0.mk (Below.refl w.heap.size w)
  have hc0 := Sep.c20 (⟨hO, (fun q hq => by cases hq), trivial⟩ : Sep base w [otR g (.slice A n c) bad])
  have hc1 := Sep.c21 (⟨hO, (fun q hq => by cases hq), trivial⟩ : Sep base w [otR g (.slice A n c) bad])
  clear hO
  cases bad
  · by_cases h : 0 < n
    · have h1 := eq_true h
      have h2 := decide_eq_true (show (0 : Int) < (n : Int) by omega)
      have h3 := decide_eq_true h
      have HE := Aside0.mk (show (if false = true ∨ 0 < n then (6 : Int) else 0) = 6 from if_pos (.inr h))
      clear h
      rw [HE.out]
      go_enter Try.func76, Try.ntmps76
      go_wp2
      go_ret
      exact ⟨rfl, HB.out⟩
    · have h1 := eq_false h
      have h2 := decide_eq_false (show ¬ (0 : Int) < (n : Int) by omega)
      have h3 := decide_eq_false h
      have HE := Aside0.mk (show (if false = true ∨ 0 < n then (6 : Int) else 0) = 0 from if_neg (by simp [h]))
      clear h
      rw [HE.out]
      go_enter Try.func76, Try.ntmps76
      go_wp2
      go_ret
      exact ⟨rfl, HB.out⟩
  · have HE := Aside0.mk (show (if true = true ∨ 0 < n then (6 : Int) else 0) = 6 from if_pos (.inl rfl))
    rw [HE.out]
    go_enter Try.func76, Try.ntmps76
    go_wp2
    go_ret
    exact ⟨rfl, HB.out⟩
set_option maxHeartbeats 8000000 in
set_option maxRecDepth 100000 in
theorem onew_calls (A0 : Option Addr) (c0 : Nat) (b : List Int) (w : World) (hr0 : Kd.C (Kd.int .u8) w A0 b.length b) (hc0 : b.length ≤ c0) (hl : b.length < 1000000) :
    Calls Try.prog 73 #[.slice A0 b.length c0] w fun e w' => ∃ g F A c, e = .returned (.pointer (some ⟨g, 0, none⟩)) ∧ Sep w.heap.size w' [otR g (.slice A b.length c) false, row F (Kd.int .u8) 5 w.heap.size (.slice A b.length c) b] ∧ Below w.heap.size w w' := by
  have HB := Aside0.mk (Below.refl w.heap.size w)
  have HS := Aside0.mk (Sep.nil w.heap.size w)
  have HR := Aside0.mk hr0
  have HL := Aside0.mk hl
  clear hr0 hl hc0
  go_enter Try.func73, Try.ntmps73
  go_wp2_with (first
    | ((with_reducible refine gate_dst (N := 3) rfl ?_); (try (refine gate_guard (by rfl) ?_; dsimp only)); (refine wp_lit (Kd.int .u8) (w0 := w) ?hg_ (N := 3) ?hd_ 5 (([] : List Int)) [] ?hr_ ?hp_ (by repeat (first | (with_reducible first | exact HS.out | apply sep_alloc | apply sep_drewN | apply sep_drew) | exact HS.out)) (by repeat (first | (with_reducible first | exact HB.out | apply below_alloc | apply pw_below_drewN | apply below_drew1) | exact HB.out)) (by simp) ?_; (case hd_ => rfl); (case hg_ => rfl); (case hr_ => first | (go_simp; done) | (go_simp; rfl)); (case hp_ => exact (Reps.none _ _))); intro v_ w_ F_ hs_ hb_; clear HB HS; have HB := Aside0.mk hb_; have HS := Aside0.mk hs_; clear hs_ hb_; obtain ⟨A_, c_, e_⟩ := Kd.R_slice (Sep.R HS.out); subst e_; (skip))
    | ((with_reducible refine gate_builtin (b := .append) (xs := #[.tmp 3, .tmp 4]) rfl ?_); (refine wp_append_row (Kd.int .u8) (w0 := w) rfl (.tmp 3) (.tmp 4) 24 5 (.int .u8 0) 1 rfl Try.underlying24 info5 rfl (by decide) (by omega) b _ _ _ HS.out (Kd.C_below HR.out HB.out) (fun _ _ h => h) (by repeat (first | (with_reducible first | exact HB.out | apply below_alloc | apply pw_below_drewN | apply below_drew1) | exact HB.out)) (by have := HL.out; simp; omega) rfl rfl ?_); (intro v_ w_ F_ hs_ hb_); (obtain ⟨O0, hy_⟩ : ∃ y_, y_ = ([] : List Int) ++ b := ⟨_, rfl⟩; rw [← hy_] at hs_; have HO0 := Aside0.mk hy_; clear hy_ HB HS; have HB := Aside0.mk hb_; have HS := Aside0.mk hs_; clear hs_ hb_; obtain ⟨A_, c_, e_⟩ := Kd.R_slice (Sep.R HS.out); subst e_); (have ho0 : O0 = b := (by rw [HO0.out]; rfl); clear HO0; subst ho0))
    | ((with_reducible refine gate_dst (N := 7) rfl ?_); (try (refine gate_guard (by rfl) ?_; dsimp only)); refine box_event ?hg (N := 7) ?hd (cs := #[.slice A_ O0.length c_, .bool false]) (t := 125) ?hr ?_; (case hd => rfl); (case hg => rfl); (case hr => first | (go_simp; done) | (go_simp; rfl)); intro g hg w5 hbox hb; have n0_ := Aside0.mk (below_step (by repeat (first | (with_reducible first | exact HB.out | apply below_alloc | apply pw_below_drewN | apply below_drew1) | exact HB.out)) hb); have n1_ := Aside0.mk (Sep.newbox (by repeat (first | (with_reducible first | exact HS.out | apply sep_alloc | apply sep_drewN | apply sep_drew) | exact HS.out)) hb (Nat.le_of_eq hg.symm) (below_size (by repeat (first | (with_reducible first | exact HB.out | apply below_alloc | apply pw_below_drewN | apply below_drew1) | exact HB.out))) hbox); clear HB HS; have HB := n0_; have HS := n1_; clear n0_ n1_ hb hbox hg))
  go_ret
  exact ⟨_, _, _, _, rfl, HS.out, HB.out⟩
end Go.Proofs.Ythkpnnbjcendcaa.Sc
