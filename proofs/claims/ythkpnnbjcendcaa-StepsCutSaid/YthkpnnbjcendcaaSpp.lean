/- StepsPut, walked. -/
import Derived.Test.YthkpnnbjcendcaaGc
import Derived.Test.YthkpnnbjcendcaaGb
set_option linter.unusedVariables false
set_option linter.unusedSimpArgs false
open Go.RowKit Go.Proofs.Ythkpnnbjcendcaa.X Go.Proofs.Ythkpnnbjcendcaa.Pl Go.Proofs.Ythkpnnbjcendcaa.Sp Go.Proofs.Ythkpnnbjcendcaa.Sc Go.Proofs.Ythkpnnbjcendcaa.Pure Go.Proofs.YthkpnnbjcendcaaW.PrintWords Go.Proofs.YthkpnnbjcendcaaW.PrintLast Go.Proofs.YthkpnnbjcendcaaW.PrintMore
namespace Go.Proofs.Ythkpnnbjcendcaa.Sc
theorem sput_named (A0 : Option Addr) (c0 : Nat) (l0 : List S52) (O : List Int) (q : Int) (w : World) (ho : (putR l0).1 = O) (hq : (putR l0).2 = q) (hr0 : Kd.C k52 w A0 l0.length l0) (hc0 : l0.length ≤ c0) (hl : l0.length < 4611686018427387904) (hf : fitP l0) :
    Calls Try.prog 29 #[.slice A0 l0.length c0] w fun e w' => ∃ v, e = .returned (.tuple #[v, .int .i64 q]) ∧ Kd.R (Kd.int .u8) 5 w' w.heap.size (fun _ => True) v O ∧ Below w.heap.size w w' := by
  subst ho hq
  exact sput_calls A0 c0 l0 w hr0 hc0 hl hf
theorem rput_named (A0 : Option Addr) (c0 : Nat) (l0 : List S52) (O : List Int) (q : Int) (w : World) (ho : (putR l0).1 = O) (hq : (putR l0).2 = q) (hr0 : Kd.C k52 w A0 l0.length l0) (hc0 : l0.length ≤ c0) (hl : l0.length < 4611686018427387904) :
    Calls Try.prog 31 #[.slice A0 l0.length c0] w fun e w' => ∃ v, e = .returned (.tuple #[v, .int .i64 q]) ∧ Kd.R (Kd.int .u8) 5 w' w.heap.size (fun _ => True) v O ∧ Below w.heap.size w w' := by
  subst ho hq
  exact rput_calls A0 c0 l0 w hr0 hc0 hl
theorem right_named (A0 : Option Addr) (c0 : Nat) (l0 : List S52) (b : Bool) (w : World) (hb : rightB l0 = b) (hr0 : Kd.C k52 w A0 l0.length l0) (hc0 : l0.length ≤ c0) (hl : l0.length < 4611686018427387904) :
    Calls Try.prog 33 #[.slice A0 l0.length c0] w fun e w' => e = .returned (.bool b) ∧ Below w.heap.size w w' := hb ▸ right_calls A0 c0 l0 w hr0 hc0 hl
theorem refright_named (A0 : Option Addr) (c0 : Nat) (l0 : List S52) (b : Bool) (w : World) (hb : rightB l0 = b) (hr0 : Kd.C k52 w A0 l0.length l0) (hc0 : l0.length ≤ c0) (hl : l0.length < 4611686018427387904) :
    Calls Try.prog 34 #[.slice A0 l0.length c0] w fun e w' => e = .returned (.bool b) ∧ Below w.heap.size w w' := hb ▸ refright_calls A0 c0 l0 w hr0 hc0 hl
end Go.Proofs.Ythkpnnbjcendcaa.Sc
namespace Go.Proofs.Ythkpnnbjcendcaa.X
def marigraphlaw04_StepsPut.Fit (l : List S52) : Prop := l.length * 16 ≤ 140737488351232 ∧ (∀ y ∈ l, (Lit.int .i64 y.f0).wf = true ∧ (Lit.int .i64 y.f1).wf = true)
open Classical in
noncomputable def marigraphlaw04_StepsPut.f (l : List S52) : Option Bool := if marigraphlaw04_StepsPut.Fit l then some true else none
set_option maxHeartbeats 8000000 in
set_option maxRecDepth 100000 in
theorem marigraphlaw04_StepsPut.calls (A0 : Option Addr) (c0 : Nat) (l0 : List S52) (r : Bool) (w : World) (hr0 : Kd.C k52 w A0 l0.length l0) (hc0 : l0.length ≤ c0) (h : marigraphlaw04_StepsPut.f l0 = some r) :
    Calls Try.prog 6 #[.slice A0 l0.length c0] w fun e w' => e = .returned (.bool r) ∧ Below w.heap.size w w' := by
  unfold marigraphlaw04_StepsPut.f at h
  split at h
  case isFalse => cases h
  case isTrue hfit =>
  obtain rfl := Option.some.inj h
  obtain ⟨hlen, hwf⟩ := hfit
  obtain ⟨x, hx⟩ : ∃ x, x = l0.take 1100 := ⟨_, rfl⟩
  have HF := Aside0.mk (show fitP x from fun y hy => by have := hwf y (List.mem_of_mem_take (hx ▸ hy)); exact ⟨wf64 this.1, wf64 this.2⟩)
  have HX := Aside0.mk hx
  have HR := Aside0.mk (show Kd.C k52 w A0 x.length x from hx ▸ C_take' hr0 1100)
  have HC := Aside0.mk hc0
  have HCX := Aside0.mk (show x.length ≤ c0 by rw [hx, List.length_take]; omega)
  have HL := Aside0.mk (show x.length < 4611686018427387904 by rw [hx, List.length_take]; omega)
  obtain ⟨O, ho⟩ : ∃ a, (putR x).1 = a := ⟨_, rfl⟩
  obtain ⟨q, hq⟩ : ∃ a, (putR x).2 = a := ⟨_, rfl⟩
  obtain ⟨rb, hrb⟩ : ∃ a, rightB x = a := ⟨_, rfl⟩
  have HO := Aside0.mk ho
  have HQ := Aside0.mk hq
  have HRB := Aside0.mk hrb
  have HB := Aside0.mk (Below.refl w.heap.size w)
  have HS := Aside0.mk (Sep.nil w.heap.size w)
  clear h hr0 hc0 hlen hwf hx ho hq hrb
  go_enter Try.func6, Try.ntmps6
  go_wp2_with (first
    | (go_at_call 30; ((with_reducible refine (few04_calls A0 c0 l0 _ HC.out).mono ?_); rintro e w1 ⟨rfl, hb⟩; rw [← HX.out]; have n0_ := Aside0.mk (below_step (by repeat (first | (with_reducible first | exact HB.out | apply below_alloc | apply pw_below_drewN | apply below_drew1) | exact HB.out)) hb); have n1_ := Aside0.mk (Sep.below (by repeat (first | (with_reducible first | exact HS.out | apply sep_alloc | apply sep_drewN | apply sep_drew) | exact HS.out)) hb); clear HB HS; have HB := n0_; have HS := n1_; clear n0_ n1_ hb))
    | ((with_reducible refine gate_dst (N := 10) rfl ?_); (try (refine gate_guard (by rfl) ?_; dsimp only)); refine goesL_ (some 10) rfl rfl Try.func29 (by kernel_rfl) rfl #[.slice A0 x.length c0] rfl (by (try simp only [List.map_toArray, List.map_cons, List.map_nil]); first | done | rfl) ?_; (with_reducible refine (sput_named A0 c0 x O q _ HO.out HQ.out (Kd.C_below HR.out HB.out) HCX.out HL.out HF.out).mono ?_); rintro e w2 ⟨v, rfl, ho, hb⟩; refine ⟨_, rfl, ?_⟩; obtain ⟨A1, c1, e_⟩ := Kd.R_slice ho; subst e_; obtain ⟨F1, hs_⟩ := Sep.newrow (by repeat (first | (with_reducible first | exact HS.out | apply sep_alloc | apply sep_drewN | apply sep_drew) | exact HS.out)) hb (below_size (by repeat (first | (with_reducible first | exact HB.out | apply below_alloc | apply pw_below_drewN | apply below_drew1) | exact HB.out))) ho; have n0_ := Aside0.mk (below_step (by repeat (first | (with_reducible first | exact HB.out | apply below_alloc | apply pw_below_drewN | apply below_drew1) | exact HB.out)) hb); clear HB HS hb ho; have HB := n0_; have HS := Aside0.mk hs_; clear n0_ hs_)
    | ((with_reducible refine gate_dst (N := 16) rfl ?_); (try (refine gate_guard (by rfl) ?_; dsimp only)); refine goesL_ (some 16) rfl rfl Try.func31 (by kernel_rfl) rfl #[.slice A0 x.length c0] rfl (by (try simp only [List.map_toArray, List.map_cons, List.map_nil]); first | done | rfl) ?_; (with_reducible refine (rput_named A0 c0 x O q _ HO.out HQ.out (Kd.C_below HR.out HB.out) HCX.out HL.out).mono ?_); rintro e w2 ⟨v, rfl, ho, hb⟩; refine ⟨_, rfl, ?_⟩; obtain ⟨A2, c2, e_⟩ := Kd.R_slice ho; subst e_; obtain ⟨F2, hs_⟩ := Sep.newrow (by repeat (first | (with_reducible first | exact HS.out | apply sep_alloc | apply sep_drewN | apply sep_drew) | exact HS.out)) hb (below_size (by repeat (first | (with_reducible first | exact HB.out | apply below_alloc | apply pw_below_drewN | apply below_drew1) | exact HB.out))) ho; have n0_ := Aside0.mk (below_step (by repeat (first | (with_reducible first | exact HB.out | apply below_alloc | apply pw_below_drewN | apply below_drew1) | exact HB.out)) hb); clear HB HS hb ho; have HB := n0_; have HS := Aside0.mk hs_; clear n0_ hs_)
    | ((with_reducible refine gate_dst (N := 19) rfl ?_); (try (refine gate_guard (by rfl) ?_; dsimp only)); refine goesL_ (some 19) rfl rfl Try.func32 (by kernel_rfl) rfl #[] rfl (by (try simp only [List.map_toArray, List.map_cons, List.map_nil]); first | done | rfl) ?_; (with_reducible refine (shown4_calls _).mono ?_); rintro e w2 ⟨rfl, hb⟩; refine ⟨_, rfl, ?_⟩; have n0_ := Aside0.mk (below_step (by repeat (first | (with_reducible first | exact HB.out | apply below_alloc | apply pw_below_drewN | apply below_drew1) | exact HB.out)) hb); have n1_ := Aside0.mk (Sep.below (by repeat (first | (with_reducible first | exact HS.out | apply sep_alloc | apply sep_drewN | apply sep_drew) | exact HS.out)) hb); clear HB HS; have HB := n0_; have HS := n1_; clear n0_ n1_ hb)
    | ((with_reducible refine gate_dst (N := 23) rfl ?_); (try (refine gate_guard (by rfl) ?_; dsimp only)); refine goesL_ (some 23) rfl rfl Try.func33 (by kernel_rfl) rfl #[.slice A0 x.length c0] rfl (by (try simp only [List.map_toArray, List.map_cons, List.map_nil]); first | done | rfl) ?_; (with_reducible refine (right_named A0 c0 x rb _ HRB.out (Kd.C_below HR.out HB.out) HCX.out HL.out).mono ?_); rintro e w3 ⟨rfl, hb⟩; refine ⟨_, rfl, ?_⟩; have n0_ := Aside0.mk (below_step (by repeat (first | (with_reducible first | exact HB.out | apply below_alloc | apply pw_below_drewN | apply below_drew1) | exact HB.out)) hb); have n1_ := Aside0.mk (Sep.below (by repeat (first | (with_reducible first | exact HS.out | apply sep_alloc | apply sep_drewN | apply sep_drew) | exact HS.out)) hb); clear HB HS; have HB := n0_; have HS := n1_; clear n0_ n1_ hb)
    | ((with_reducible refine gate_dst (N := 26) rfl ?_); (try (refine gate_guard (by rfl) ?_; dsimp only)); refine goesL_ (some 26) rfl rfl Try.func34 (by kernel_rfl) rfl #[.slice A0 x.length c0] rfl (by (try simp only [List.map_toArray, List.map_cons, List.map_nil]); first | done | rfl) ?_; (with_reducible refine (refright_named A0 c0 x rb _ HRB.out (Kd.C_below HR.out HB.out) HCX.out HL.out).mono ?_); rintro e w3 ⟨rfl, hb⟩; refine ⟨_, rfl, ?_⟩; have n0_ := Aside0.mk (below_step (by repeat (first | (with_reducible first | exact HB.out | apply below_alloc | apply pw_below_drewN | apply below_drew1) | exact HB.out)) hb); have n1_ := Aside0.mk (Sep.below (by repeat (first | (with_reducible first | exact HS.out | apply sep_alloc | apply sep_drewN | apply sep_drew) | exact HS.out)) hb); clear HB HS; have HB := n0_; have HS := n1_; clear n0_ n1_ hb; have hcv1 := own_string (P := Try.prog) Try.underlying24 Try.underlying5 Try.underlying9 (Kd.own_of_R (Sep.R HS.out)); have hcv2 := own_string (P := Try.prog) Try.underlying24 Try.underlying5 Try.underlying9 (Kd.own_of_R (Sep.R HS.out.p2))))
  go_ret
  exact ⟨rfl, HB.out⟩
end Go.Proofs.Ythkpnnbjcendcaa.X
