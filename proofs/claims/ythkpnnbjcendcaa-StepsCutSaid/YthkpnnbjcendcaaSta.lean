/- StepsTake, walked. -/
import Derived.Test.YthkpnnbjcendcaaRta
set_option linter.unusedVariables false
set_option linter.unusedSimpArgs false
open Go.RowKit Go.Proofs.Ythkpnnbjcendcaa.X Go.Proofs.Ythkpnnbjcendcaa.Pl Go.Proofs.Ythkpnnbjcendcaa.Sp Go.Proofs.Ythkpnnbjcendcaa.Sc Go.Proofs.Ythkpnnbjcendcaa.Pure Go.Proofs.YthkpnnbjcendcaaW.PrintWords Go.Proofs.YthkpnnbjcendcaaW.PrintLast Go.Proofs.YthkpnnbjcendcaaW.PrintMore
namespace Go.Proofs.Ythkpnnbjcendcaa.Pure
theorem same_refl_ev (l : List S52) (hl : l.length < 9223372036854775807) : Ev (fun k => marigraphref04_Same.f k l l) true := by
  have go : ∀ (d i : Nat), l.length - i = d → i ≤ l.length → Ev (fun k => marigraphref04_Same.l0 k l l (i : Int)) true := by
    intro d
    induction d with
    | zero =>
      intro i hd hi
      exact ev_stop fun k => by rw [marigraphref04_Same.l0, if_neg (by omega)]
    | succ d ih =>
      intro i hd hi
      refine ev_succ (fun k => by rw [marigraphref04_Same.l0]) ?_
      refine ev_pos (by omega) (ev_pos (by omega) (ev_pos (by omega) (ev_neg (by simp) ?_)))
      rw [w64 (by omega) (by omega)]
      exact ih (i + 1) (by omega) (by omega)
  unfold marigraphref04_Same.f
  exact ev_pos rfl (go _ 0 rfl (Nat.zero_le _))
theorem put_len {l : List S52} {b : List Int} (h : putR l = (b, 0)) : l.length ≤ 1024 := by
  unfold putR at h
  split at h
  · injection h with _ h; exact absurd h (by decide)
  · omega
theorem take_len {b : List Int} {l : List S52} {z : Int} (h : takeR b = (l, z)) : l.length ≤ 1024 := by
  rcases take_two b with h2 | ⟨_, h2⟩
  · have h3 := (take_ok h2).2
    rw [h] at h3
    exact put_len h3
  · rw [h] at h2
    have : l = [] := h2
    rw [this]; simp
end Go.Proofs.Ythkpnnbjcendcaa.Pure
namespace Go.Proofs.Ythkpnnbjcendcaa.Sc
theorem same_calls (A0 A1 : Option Addr) (c0 c1 n : Nat) (l : List S52) (w : World) (hn : l.length = n) (hr0 : Kd.C k52 w A0 l.length l) (hc0 : n ≤ c0) (hr1 : Kd.C k52 w A1 l.length l) (hc1 : n ≤ c1) (hl : n < 9223372036854775807) :
    Calls Try.prog 43 #[.slice A0 n c0, .slice A1 n c1] w fun e w' => e = .returned (.bool true) ∧ Below w.heap.size w w' := by
  subst hn
  obtain ⟨K, hK⟩ := same_refl_ev l hl
  refine (marigraphref04_Same.calls K A0 c0 l A1 c1 l _ w hr0 hc0 hr1 hc1 (hK K (Nat.le_refl _))).mono ?_
  rintro e w' ⟨rfl, hd⟩
  exact ⟨rfl, hd.below⟩
theorem stake_n (A0 : Option Addr) (c0 n : Nat) (b : List Int) (l : List S52) (nl : Nat) (z : Int) (w : World) (hn : b.length = n) (hnl : l.length = nl) (hr0 : Kd.C (Kd.int .u8) w A0 b.length b) (hc0 : n ≤ c0) (hby : Byt b) (hl : n < 1000000) (hlz : takeR b = (l, z)) :
    Calls Try.prog 41 #[.slice A0 n c0] w fun e w' => ∃ A c, e = .returned (.tuple #[.slice A nl c, .int .i64 z]) ∧ Kd.C k52 w' A l.length l ∧ nl ≤ c ∧ Below w.heap.size w w' := by
  subst hn hnl
  exact stake_calls A0 c0 b l z w hr0 hc0 hby hl hlz
theorem rtake_n (A0 : Option Addr) (c0 n : Nat) (b : List Int) (l : List S52) (nl : Nat) (z : Int) (w : World) (hn : b.length = n) (hnl : l.length = nl) (hr0 : Kd.C (Kd.int .u8) w A0 b.length b) (hc0 : n ≤ c0) (hby : Byt b) (hl : n < 1000000) (hlz : takeR b = (l, z)) :
    Calls Try.prog 42 #[.slice A0 n c0] w fun e w' => ∃ A c, e = .returned (.tuple #[.slice A nl c, .int .i64 z]) ∧ Kd.C k52 w' A l.length l ∧ nl ≤ c ∧ Below w.heap.size w w' := by
  subst hn hnl
  exact rtake_calls A0 c0 b l z w hr0 hc0 hby hl hlz
theorem wf8 {x : Int} (h : (Lit.int .u8 x).wf = true) : 0 ≤ x ∧ x ≤ 255 := by simpa [Lit.wf, IntKind.min, IntKind.max, IntKind.signed, IntKind.bits] using h
end Go.Proofs.Ythkpnnbjcendcaa.Sc
namespace Go.Proofs.Ythkpnnbjcendcaa.X
def marigraphlaw04_StepsTake.Fit (l : List Int) : Prop := l.length * 1 ≤ 140737488351232 ∧ (∀ y ∈ l, (Lit.int .u8 y).wf = true)
open Classical in
noncomputable def marigraphlaw04_StepsTake.f (l : List Int) : Option Bool := if marigraphlaw04_StepsTake.Fit l then some true else none
set_option maxHeartbeats 8000000 in
set_option maxRecDepth 100000 in
theorem marigraphlaw04_StepsTake.calls (A0 : Option Addr) (c0 : Nat) (l0 : List Int) (r : Bool) (w : World) (hr0 : Kd.C (Kd.int .u8) w A0 l0.length l0) (hc0 : l0.length ≤ c0) (h : marigraphlaw04_StepsTake.f l0 = some r) :
    Calls Try.prog 11 #[.slice A0 l0.length c0] w fun e w' => e = .returned (.bool r) ∧ Below w.heap.size w w' := by
  unfold marigraphlaw04_StepsTake.f at h
  split at h
  case isFalse => cases h
  case isTrue hfit =>
  obtain rfl := Option.some.inj h
  obtain ⟨hlen, hwf⟩ := hfit
  obtain ⟨x, hx⟩ : ∃ x, x = l0.take 2000 := ⟨_, rfl⟩
  obtain ⟨m, hm⟩ : ∃ m, m = x.length := ⟨_, rfl⟩
  have hm2 : m = min 2000 l0.length := by rw [hm, hx, List.length_take]
  have HBY := Aside0.mk (show Byt x from fun y hy => wf8 (hwf y (List.mem_of_mem_take (hx ▸ hy))))
  have HR := Aside0.mk (show Kd.C (Kd.int .u8) w A0 x.length x from hx ▸ C_take' hr0 2000)
  have HC := Aside0.mk hc0
  have HXL := Aside0.mk hm.symm
  have HCX := Aside0.mk (show m ≤ c0 by omega)
  have HL := Aside0.mk (show m < 1000000 by omega)
  obtain ⟨l, z, hlz⟩ : ∃ l z, takeR x = (l, z) := ⟨_, _, rfl⟩
  have HLZ := Aside0.mk hlz
  obtain ⟨nl, hnl⟩ : ∃ n, l.length = n := ⟨_, rfl⟩
  have HNL := Aside0.mk hnl
  have HLN := Aside0.mk (show nl < 9223372036854775807 by have := take_len hlz; omega)
  have HB := Aside0.mk (Below.refl w.heap.size w)
  have HS := Aside0.mk (Sep.nil w.heap.size w)
  have hmn : (if 2000 < (l0.length : Int) then 2000 else (l0.length : Int)) = (m : Int) := by split <;> omega
  have c3b0 := eq_true (show 0 ≤ (m : Int) by omega)
  have c3b1 : decide (0 ≤ (m : Int)) = true := decide_eq_true (by omega)
  have q5 : (m : Int) ≤ (l0.length : Int) := by omega
  have c4b1 : decide ((m : Int) ≤ (l0.length : Int)) = true := decide_eq_true q5
  obtain ⟨i05, hi05, _, hsz5, _⟩ := info_parts info5
  have hcut5 := cut_to (P := Try.prog) 24 5 .i64 Try.underlying24 hi05 A0 l0.length c0 (m : Int) (by omega) q5 hc0
  rw [Int.toNat_natCast] at hcut5
  replace q5 := eq_true q5
  clear h hr0 hc0 hlen hwf hx hm hm2 hlz hnl hi05 hsz5
  go_enter Try.func11, Try.ntmps11
  go_wp2_with (first
    | (go_at_call 41; ((with_reducible refine (stake_n A0 c0 m x l nl z _ HXL.out HNL.out (Kd.C_below HR.out HB.out) HCX.out HBY.out HL.out HLZ.out).mono ?_); rintro e w1 ⟨A1, c1, rfl, hr1, hc1, hb⟩; have HR1 := Aside0.mk hr1; have HC1 := Aside0.mk hc1; clear hr1 hc1; have HW1 := Aside0.mk (Below.refl w1.heap.size w1); have n0_ := Aside0.mk (below_step (by repeat (first | (with_reducible first | exact HB.out | apply below_alloc | apply pw_below_drewN | apply below_drew1) | exact HB.out)) hb); have n1_ := Aside0.mk (Sep.below (by repeat (first | (with_reducible first | exact HS.out | apply sep_alloc | apply sep_drewN | apply sep_drew) | exact HS.out)) hb); clear HB HS; have HB := n0_; have HS := n1_; clear n0_ n1_ hb))
    | (go_at_call 42; ((with_reducible refine (rtake_n A0 c0 m x l nl z _ HXL.out HNL.out (Kd.C_below HR.out HB.out) HCX.out HBY.out HL.out HLZ.out).mono ?_); rintro e w2 ⟨A2, c2, rfl, hr2, hc2, hb⟩; have HR2 := Aside0.mk hr2; have HC2 := Aside0.mk hc2; clear hr2 hc2; have HW2 := Aside0.mk (Below.refl w2.heap.size w2); have n2_ := Aside0.mk (below_step HW1.out hb); clear HW1; have HW1 := n2_; clear n2_; have n0_ := Aside0.mk (below_step (by repeat (first | (with_reducible first | exact HB.out | apply below_alloc | apply pw_below_drewN | apply below_drew1) | exact HB.out)) hb); have n1_ := Aside0.mk (Sep.below (by repeat (first | (with_reducible first | exact HS.out | apply sep_alloc | apply sep_drewN | apply sep_drew) | exact HS.out)) hb); clear HB HS; have HB := n0_; have HS := n1_; clear n0_ n1_ hb))
    | ((with_reducible refine gate_dst (N := 23) rfl ?_); (try (refine gate_guard (by rfl) ?_; dsimp only)); refine goesL_ (some 23) rfl rfl Try.func32 (by kernel_rfl) rfl #[] rfl (by (try simp only [List.map_toArray, List.map_cons, List.map_nil]); first | done | rfl) ?_; (with_reducible refine (shown4_calls _).mono ?_); rintro e w3 ⟨rfl, hb⟩; refine ⟨_, rfl, ?_⟩; have n2_ := Aside0.mk (below_step HW1.out hb); clear HW1; have HW1 := n2_; clear n2_; have n2_ := Aside0.mk (below_step HW2.out hb); clear HW2; have HW2 := n2_; clear n2_; have n0_ := Aside0.mk (below_step (by repeat (first | (with_reducible first | exact HB.out | apply below_alloc | apply pw_below_drewN | apply below_drew1) | exact HB.out)) hb); have n1_ := Aside0.mk (Sep.below (by repeat (first | (with_reducible first | exact HS.out | apply sep_alloc | apply sep_drewN | apply sep_drew) | exact HS.out)) hb); clear HB HS; have HB := n0_; have HS := n1_; clear n0_ n1_ hb)
    | ((with_reducible refine gate_dst (N := 27) rfl ?_); (try (refine gate_guard (by rfl) ?_; dsimp only)); refine goesL_ (some 27) rfl rfl Try.func43 (by kernel_rfl) rfl #[.slice A1 nl c1, .slice A2 nl c2] rfl (by (try simp only [List.map_toArray, List.map_cons, List.map_nil]); first | done | rfl) ?_; (with_reducible refine (same_calls A1 A2 c1 c2 nl l _ HNL.out (Kd.C_below HR1.out HW1.out) HC1.out (Kd.C_below HR2.out HW2.out) HC2.out HLN.out).mono ?_); rintro e w4 ⟨rfl, hb⟩; refine ⟨_, rfl, ?_⟩; have n0_ := Aside0.mk (below_step (by repeat (first | (with_reducible first | exact HB.out | apply below_alloc | apply pw_below_drewN | apply below_drew1) | exact HB.out)) hb); have n1_ := Aside0.mk (Sep.below (by repeat (first | (with_reducible first | exact HS.out | apply sep_alloc | apply sep_drewN | apply sep_drew) | exact HS.out)) hb); clear HB HS; have HB := n0_; have HS := n1_; clear n0_ n1_ hb))
  go_ret
  exact ⟨by first | rfl | simp, HB.out⟩
end Go.Proofs.Ythkpnnbjcendcaa.X
