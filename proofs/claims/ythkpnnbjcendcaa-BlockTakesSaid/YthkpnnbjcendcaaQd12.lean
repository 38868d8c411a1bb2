/- What the law leans on, part 12: X92, X93, Pbb, Psl, Sea, Pbt, Bpt. -/
import Derived.Test.YthkpnnbjcendcaaQd11
set_option linter.unusedVariables false
set_option linter.unusedSimpArgs false
namespace SzQd12
theorem sA_ {α : Type} {l : List α} {i : Nat} {a : α} : l.toArray.setIfInBounds i a = (l.set i a).toArray := List.setIfInBounds_toArray ..
theorem sB_ {α : Type} {x : α} {l : List α} {a : α} : (x :: l).set 0 a = a :: l := rfl
theorem sC_ {α : Type} {x : α} {l : List α} {n : Nat} {a : α} : (x :: l).set (n + 1) a = x :: l.set n a := rfl
end SzQd12
open SzQd12
section
namespace Go.Proofs.Ythkpnnbjcendcaa.X
open Go.RowKit Go.Proofs.YthkpnnbjcendcaaW.PrintWords Go.Proofs.YthkpnnbjcendcaaW.PrintLast Go.Proofs.YthkpnnbjcendcaaW.PrintMore
attribute [local go_sem] max2_int min2_int max_two min_two max_three min_three max_four min_four
mutual
def marigraphref03_Sum.l0 : Nat → List Int → Int → Int → Option (Int)
 | 0, _, _, _ => none
 | k + 1, x0, x3, x4 => if x4 < (x0.length : Int) then (if 0 ≤ x4 then (marigraphref03_Sum.l1 k x0 (Go.bits .xor .u32 x3 ((((rd x0 x4) % 4294967296) * 16777216) % 4294967296)) x4 0) else (none)) else (some (Go.bits .xor .u32 x3 4294967295))
def marigraphref03_Sum.l1 : Nat → List Int → Int → Int → Int → Option (Int)
 | 0, _, _, _, _ => none
 | k + 1, x0, x3, x4, x5 => if x5 < 8 then (if x3 < 2147483648 then (marigraphref03_Sum.l1 k x0 ((2 * x3) % 4294967296) x4 (wrap64 (x5 + 1))) else (marigraphref03_Sum.l1 k x0 (Go.bits .xor .u32 ((2 * ((x3 - 2147483648) % 4294967296)) % 4294967296) 79764919) x4 (wrap64 (x5 + 1)))) else (marigraphref03_Sum.l0 k x0 x3 (wrap64 (x4 + 1)))
end
def marigraphref03_Sum.f (k : Nat) (l0 : List Int) : Option (Int) := marigraphref03_Sum.l0 k l0 4294967295 0
set_option maxHeartbeats 8000000 in
set_option maxRecDepth 100000 in
theorem marigraphref03_Sum.calls (k : Nat) (A0 : Option Addr) (c0 : Nat) (l0 : List Int) (r : Int) (w : World) (hr0 : Kd.C (Kd.int .u8) w A0 l0.length l0) (hc0 : l0.length ≤ c0) (h : marigraphref03_Sum.f k l0 = some r) :
  Calls Try.prog 108 #[.slice A0 l0.length c0] w fun e w' => e = .returned (.int .u32 r) ∧ Drawn0 w w' := by
 have HR0 := Aside0.mk hr0
 have HC0 := Aside0.mk hc0
 clear hr0 hc0
 have H : (marigraphref03_Sum.l0 k l0 4294967295 0) = some r := h
 clear h
 have H' := Aside0.mk H
 clear H
 go_enter Try.func108, Try.ntmps108
 go_wp2
 go_loopg [3, 4] k (fun kq v3 v4 w' => ∃ (x3_1 : Int) (x4_1 : Int), v3 = .int .u32 x3_1 ∧ v4 = .int .i64 x4_1 ∧ Aside0 (marigraphref03_Sum.l0 kq l0 x3_1 x4_1 = some r) ∧ Aside0 (kq ≤ k) ∧ Drawn0 w w')
 case atStart => exact ⟨(4294967295), (0), (by first | rfl | (simp; done) | (simp [*]; done) | (simp <;> grind)), (by first | rfl | (simp; done) | (simp [*]; done) | (simp <;> grind)), H', ⟨Nat.le_refl _⟩, by repeat (first | exact Drawn0.refl _ | apply Drawn0.step)⟩
 case round =>
  clear H'
  try clear c1
  obtain ⟨x3_1, x4_1, rfl, rfl, HA, HK1, ⟨m1, rfl⟩⟩ := hrel
  cases gk with
  | zero => exact absurd HA.out (by simp [marigraphref03_Sum.l0])
  | succ k1 =>
   have H := HA.out
   clear HA
   simp only [marigraphref03_Sum.l0] at H
   by_cases c2 : x4_1 < (l0.length : Int)
   ·rw [if_pos c2] at H
    have c2b0 : decide (x4_1 < (l0.length : Int)) = true := decide_eq_true c2
    clear c2
    by_cases c3 : 0 ≤ x4_1
    ·rw [if_pos c3] at H
     have c3b0 : decide (0 ≤ x4_1) = true := decide_eq_true c3
     clear c3
     have H' := Aside0.mk H
     clear H
     have p362 : 0 ≤ (x4_1 : Int) := of_decide_eq_true (by first | (with_reducible assumption) | assumption)
     have q362 : x4_1 < (l0.length : Int) := of_decide_eq_true (by first | (with_reducible assumption) | assumption)
     obtain ⟨ad362, e362, hx362_0⟩ := Kd.at_int HR0.out x4_1 p362 q362
     cases e362
     replace p362 := eq_true p362
     replace q362 := eq_true q362
     go_wp2
     go_loopg [3, 5] k1 (fun kq v3 v5 w' => ∃ (x3_2 : Int) (x5_2 : Int), v3 = .int .u32 x3_2 ∧ v5 = .int .i64 x5_2 ∧ Aside0 (marigraphref03_Sum.l1 kq l0 x3_2 x4_1 x5_2 = some r) ∧ Aside0 (kq ≤ k1) ∧ Drawn0 w w')
     case atStart => exact ⟨(Go.bits .xor .u32 x3_1 ((((rd l0 x4_1) % 4294967296) * 16777216) % 4294967296)), (0), (by first | rfl | (simp; done) | (simp [*]; done) | (simp <;> grind)), (by first | rfl | (simp; done) | (simp [*]; done) | (simp <;> grind)), H', ⟨Nat.le_refl _⟩, by repeat (first | exact Drawn0.refl _ | apply Drawn0.step)⟩
     case round =>
      clear H'
      try clear c1
      try clear c2
      try clear c2b0
      try clear p2
      try clear c3
      try clear c3b0
      try clear p3
      try clear q3
      try clear hx3
      try clear hx362_0
      try clear p362
      try clear q362
      obtain ⟨x3_2, x5_2, rfl, rfl, HA, HK2, ⟨m2, rfl⟩⟩ := hrel
      cases gk with
      | zero => exact absurd HA.out (by simp [marigraphref03_Sum.l1])
      | succ k2 =>
       have H := HA.out
       clear HA
       simp only [marigraphref03_Sum.l1] at H
       by_cases c4 : x5_2 < 8
       ·rw [if_pos c4] at H
        have c4b0 : decide (x5_2 < 8) = true := decide_eq_true c4
        clear c4
        by_cases c5 : x3_2 < 2147483648
        ·rw [if_pos c5] at H
         have c5b0 : decide (x3_2 < 2147483648) = true := decide_eq_true c5
         clear c5
         have H' := Aside0.mk H
         clear H
         go_wp2
         go_roundg k2
         case measure => have := HK1.out; have := HK2.out; omega
         case rel => exact ⟨((2 * x3_2) % 4294967296), (wrap64 (x5_2 + 1)), (by first | rfl | (simp; done) | (simp [*]; done) | (simp <;> grind)), (by first | rfl | (simp; done) | (simp [*]; done) | (simp <;> grind)), H', ⟨by have := HK1.out; have := HK2.out; omega⟩, by repeat (first | exact Drawn0.refl _ | apply Drawn0.step)⟩
        ·rw [if_neg c5] at H
         have c5b0 : decide (x3_2 < 2147483648) = false := decide_eq_false c5
         clear c5
         have H' := Aside0.mk H
         clear H
         go_wp2
         go_roundg k2
         case measure => have := HK1.out; have := HK2.out; omega
         case rel => exact ⟨(Go.bits .xor .u32 ((2 * ((x3_2 - 2147483648) % 4294967296)) % 4294967296) 79764919), (wrap64 (x5_2 + 1)), (by first | rfl | (simp; done) | (simp [*]; done) | (simp <;> grind)), (by first | rfl | (simp; done) | (simp [*]; done) | (simp <;> grind)), H', ⟨by have := HK1.out; have := HK2.out; omega⟩, by repeat (first | exact Drawn0.refl _ | apply Drawn0.step)⟩
       ·rw [if_neg c4] at H
        have c4b0 : decide (x5_2 < 8) = false := decide_eq_false c4
        clear c4
        have H' := Aside0.mk H
        clear H
        go_wp2
        go_roundg k2
        case measure => have := HK1.out; have := HK2.out; omega
        case rel => exact ⟨(x3_2), (wrap64 (x4_1 + 1)), (by first | rfl | (simp; done) | (simp [*]; done) | (simp <;> grind)), (by first | rfl | (simp; done) | (simp [*]; done) | (simp <;> grind)), H', ⟨by have := HK1.out; have := HK2.out; omega⟩, by repeat (first | exact Drawn0.refl _ | apply Drawn0.step)⟩
    ·rw [if_neg c3] at H
     exact absurd H (by simp)
   ·rw [if_neg c2] at H
    have c2b0 : decide (x4_1 < (l0.length : Int)) = false := decide_eq_false c2
    clear c2
    obtain rfl := Option.some.inj H
    go_wp2
    go_ret
    exact ⟨by first | rfl | (simp; done) | (simp [*]; done) | (simp <;> grind), by repeat (first | exact Drawn0.refl _ | apply Drawn0.step)⟩
end Go.Proofs.Ythkpnnbjcendcaa.X
end
section
namespace Go.Proofs.Ythkpnnbjcendcaa.X
open Go.RowKit Go.Proofs.YthkpnnbjcendcaaW.PrintWords Go.Proofs.YthkpnnbjcendcaaW.PrintLast Go.Proofs.YthkpnnbjcendcaaW.PrintMore
attribute [local go_sem] max2_int min2_int max_two min_two max_three min_three max_four min_four
def marigraphref03_Put.f (k : Nat) (l0 : List Int) : Option (List Int) := (marigraphref01_Put.f k ([] : List Int) (IntKind.u64.wrap ((l0.length : Int)))).bind fun t363 => (if t363.length + l0.length < 140737488355328 then ((some (t363 ++ l0 : List Int)).bind fun y366 => ((marigraphref03_Sum.f k y366).bind fun t369 => ((some (([((Int.tdiv t369 16777216) % 4294967296) % 256, ((Int.tdiv t369 65536) % 4294967296) % 256, ((Int.tdiv t369 256) % 4294967296) % 256, (Int.tmod t369 256) % 256] : List Int) : List Int)).bind fun y370 => (if y366.length + y370.length < 140737488355328 then (some (y366 ++ y370)) else (none))))) else (none))
set_option maxHeartbeats 8000000 in
set_option maxRecDepth 100000 in
theorem marigraphref03_Put.calls (k : Nat) (A0 : Option Addr) (c0 : Nat) (l0 : List Int) (r : List Int) (w : World) (hr0 : Kd.C (Kd.int .u8) w A0 l0.length l0) (hc0 : l0.length ≤ c0) (h : marigraphref03_Put.f k l0 = some r) :
  Calls Try.prog 90 #[.slice A0 l0.length c0] w fun e w' => ∃ v0_ : Value, e = .returned (v0_) ∧ Kd.R (Kd.int .u8) 5 w' w.heap.size (fun _ => True) v0_ r ∧ Below w.heap.size w w' := by
 have HR0 := Aside0.mk hr0
 have HC0 := Aside0.mk hc0
 clear hr0 hc0
 have HB := Aside0.mk (Below.refl w.heap.size w)
 have H : ((marigraphref01_Put.f k ([] : List Int) (IntKind.u64.wrap ((l0.length : Int)))).bind fun t363 => (if t363.length + l0.length < 140737488355328 then ((some (t363 ++ l0 : List Int)).bind fun y366 => ((marigraphref03_Sum.f k y366).bind fun t369 => ((some (([((Int.tdiv t369 16777216) % 4294967296) % 256, ((Int.tdiv t369 65536) % 4294967296) % 256, ((Int.tdiv t369 256) % 4294967296) % 256, (Int.tmod t369 256) % 256] : List Int) : List Int)).bind fun y370 => (if y366.length + y370.length < 140737488355328 then (some (y366 ++ y370)) else (none))))) else (none))) = some r := h
 clear h
 replace H := Option.bind_eq_some_iff.mp H
 obtain ⟨t363, A20, H⟩ := H
 replace H : (if t363.length + l0.length < 140737488355328 then ((some (t363 ++ l0 : List Int)).bind fun y366 => ((marigraphref03_Sum.f k y366).bind fun t369 => ((some (([((Int.tdiv t369 16777216) % 4294967296) % 256, ((Int.tdiv t369 65536) % 4294967296) % 256, ((Int.tdiv t369 256) % 4294967296) % 256, (Int.tmod t369 256) % 256] : List Int) : List Int)).bind fun y370 => (if y366.length + y370.length < 140737488355328 then (some (y366 ++ y370)) else (none))))) else (none)) = some r := H
 have A2 := Aside0.mk A20
 clear A20
 by_cases c3 : t363.length + l0.length < 140737488355328
 ·rw [if_pos c3] at H
  have LMc3 := Aside0.mk c3
  clear c3
  obtain ⟨y366, hy366⟩ : ∃ y_ : List Int, y_ = (t363 ++ l0) := ⟨_, rfl⟩
  replace H : ((marigraphref03_Sum.f k y366).bind fun t369 => ((some (([((Int.tdiv t369 16777216) % 4294967296) % 256, ((Int.tdiv t369 65536) % 4294967296) % 256, ((Int.tdiv t369 256) % 4294967296) % 256, (Int.tmod t369 256) % 256] : List Int) : List Int)).bind fun y370 => (if y366.length + y370.length < 140737488355328 then (some (y366 ++ y370)) else (none)))) = some r := by first | (rw [hy366]; with_reducible exact H) | (have H2_ := (Option.bind_some _ _).symm.trans H; rw [hy366]; with_reducible exact H2_) | (have H2_ := (Option.bind_some _ _).symm.trans H; with_reducible exact H2_) | with_reducible exact H | (rw [hy366]; exact H) | exact H
  have Ny366 := Aside0.mk hy366
  clear hy366
  replace H := Option.bind_eq_some_iff.mp H
  obtain ⟨t369, A40, H⟩ := H
  replace H : ((some (([((Int.tdiv t369 16777216) % 4294967296) % 256, ((Int.tdiv t369 65536) % 4294967296) % 256, ((Int.tdiv t369 256) % 4294967296) % 256, (Int.tmod t369 256) % 256] : List Int) : List Int)).bind fun y370 => (if y366.length + y370.length < 140737488355328 then (some (y366 ++ y370)) else (none))) = some r := H
  have A4 := Aside0.mk A40
  clear A40
  obtain ⟨y370, hy370⟩ : ∃ y_ : List Int, y_ = (([((Int.tdiv t369 16777216) % 4294967296) % 256, ((Int.tdiv t369 65536) % 4294967296) % 256, ((Int.tdiv t369 256) % 4294967296) % 256, (Int.tmod t369 256) % 256] : List Int)) := ⟨_, rfl⟩
  replace H : (if y366.length + y370.length < 140737488355328 then (some (y366 ++ y370)) else (none)) = some r := by first | (rw [hy370]; with_reducible exact H) | (have H2_ := (Option.bind_some _ _).symm.trans H; rw [hy370]; with_reducible exact H2_) | (have H2_ := (Option.bind_some _ _).symm.trans H; with_reducible exact H2_) | with_reducible exact H | (rw [hy370]; exact H) | exact H
  have Ny370 := Aside0.mk hy370
  clear hy370
  by_cases c5 : y366.length + y370.length < 140737488355328
  ·rw [if_pos c5] at H
   have LMc5 := Aside0.mk c5
   clear c5
   obtain ⟨y373, hy373⟩ : ∃ y_ : List Int, y_ = (y366 ++ y370) := ⟨_, rfl⟩
   replace H : (some y373) = some r := by first | (rw [hy373]; with_reducible exact H) | (have H2_ := (Option.bind_some _ _).symm.trans H; rw [hy373]; with_reducible exact H2_) | (have H2_ := (Option.bind_some _ _).symm.trans H; with_reducible exact H2_) | with_reducible exact H | (rw [hy373]; exact H) | exact H
   have Ny373 := Aside0.mk hy373
   clear hy373
   obtain rfl := Option.some.inj H
   go_enter Try.func90, Try.ntmps90
   go_wp2_with (first | ((with_reducible refine gate_callee (f := 68) rfl ?_); refine goesL_ (some 8) rfl rfl Try.func68 (by kernel_rfl) rfl #[.slice none 0 0, .int .u64 (IntKind.u64.wrap ((l0.length : Int)))] rfl (by (try simp only [List.map_toArray, List.map_cons, List.map_nil]); first | done | rfl | (simp only [List.length_drop, List.length_take]; rfl)) ?_; (refine (marigraphref01_Put.calls k _ _ ([] : List Int) (IntKind.u64.wrap ((l0.length : Int))) t363 _ ?side1 ?side2 A2.out).mono ?_); (case side1 => exact Kd.C_nil _ _); (case side2 => exact Nat.le_refl _); rintro e w6 ⟨v364, rfl, ho0, hb⟩; refine ⟨_, rfl, ?_⟩; have n0_ := Aside0.mk (Kd.R_lower ho0 (below_size (by repeat (first | exact HB.out | apply below_alloc | apply pw_below_drewN | apply below_drew1)))); have n1_ := Aside0.mk (below_step (by repeat (first | exact HB.out | apply below_alloc | apply pw_below_drewN | apply below_drew1)) hb); clear HB; have HO365 := n0_; have HB := n1_; clear n0_ n1_; (try clear hb); (try clear hb2); (try clear hk); (try clear hi); (try clear ho0)) | ((with_reducible refine gate_builtin (b := .append) (xs := #[.tmp 8, .tmp 9]) rfl ?_); at_builtin; refine Kd.R_append_rows (Kd.int .u8) (w0 := w) w.heap.size rfl (.tmp 8) (.tmp 9) 24 5 (.int .u8 0) 1 rfl Try.underlying24 info5 rfl (by decide) (by omega) v364 t363 l0 _ _ _ (fun _ => True) (fun _ => False) rfl rfl ?aO ?aR (fun _ _ h => h) (fun _ h => h.elim) ?aF ?aB ?aS ?aL ?_; (case aR => repeat (first | exact (Kd.C_below HR0.out HB.out) | (with_reducible refine Kd.C_alloc ?_ _) | (with_reducible refine Kd.C_drewN ?_ _) | (with_reducible refine Kd.C_drew ?_))); (case aB => exact (by repeat (first | exact HB.out | apply below_alloc | apply pw_below_drewN | apply below_drew1))); (case aF => exact (fun _ _ => trivial)); (case aO => exact (by (with_reducible repeat (first | apply Kd.R_alloc | apply Kd.R_drewN | apply Kd.R_drew)); exact HO365.out)); (case aS => exact (below_size (by repeat (first | exact HB.out | apply below_alloc | apply pw_below_drewN | apply below_drew1)))); (case aL => have := LMc3.out; omega); intro v367 w7 ho hb hg hat; rw [← Ny366.out] at ho; have n0_ := Aside0.mk (hb); have n1_ := Aside0.mk (ho); clear HB; clear HO365; have HB := n0_; have HO368 := n1_; clear n0_ n1_; clear ho hb hg hat; obtain ⟨Ao8, co8, eo8⟩ := Kd.R_slice HO368.out; subst eo8) | ((with_reducible refine gate_callee (f := 108) rfl ?_); refine goesL_ (some 12) rfl rfl Try.func108 (by kernel_rfl) rfl #[.slice Ao8 y366.length co8] rfl (by (try simp only [List.map_toArray, List.map_cons, List.map_nil]); first | done | rfl | (simp only [List.length_drop, List.length_take]; rfl)) ?_; (with_reducible refine (marigraphref03_Sum.calls k _ _ y366 t369 _ ?side1 ?side2 A4.out).mono ?_); (case side1 => repeat (first | exact (Kd.R_reads' HO368.out).2.2 | (with_reducible refine Kd.C_alloc ?_ _) | (with_reducible refine Kd.C_drewN ?_ _) | (with_reducible refine Kd.C_drew ?_))); (case side2 => exact (Kd.R_reads' HO368.out).2.1); rintro e w' ⟨rfl, ⟨nd, rfl⟩⟩; refine ⟨_, rfl, ?_⟩) | ((with_reducible refine gate_dst (N := 28) rfl ?_); refine Kd.R_lit (Kd.int .u8) _ 5 ?hg (N := 28) ?hd (xs := ([((Int.tdiv t369 16777216) % 4294967296) % 256, ((Int.tdiv t369 65536) % 4294967296) % 256, ((Int.tdiv t369 256) % 4294967296) % 256, (Int.tmod t369 256) % 256] : List Int)) (inner := [.int .u8 (((Int.tdiv t369 16777216) % 4294967296) % 256), .int .u8 (((Int.tdiv t369 65536) % 4294967296) % 256), .int .u8 (((Int.tdiv t369 256) % 4294967296) % 256), .int .u8 ((Int.tmod t369 256) % 256)]) (ok := fun _ => True) (okp := fun _ => True) ?hr ?hp (fun _ hk => hk) trivial (Below.refl _ _) (Nat.le_refl _) (by simp) ?_; (case hd => rfl); (case hg => rfl); (case hr => first | (go_simp; done) | (go_simp; rfl)); (case hp => exact (Reps.one (show Kd.M (Kd.int .u8) _ _ _ (((Int.tdiv t369 16777216) % 4294967296) % 256) [.int .u8 (((Int.tdiv t369 16777216) % 4294967296) % 256)] from rfl) (Reps.one (show Kd.M (Kd.int .u8) _ _ _ (((Int.tdiv t369 65536) % 4294967296) % 256) [.int .u8 (((Int.tdiv t369 65536) % 4294967296) % 256)] from rfl) (Reps.one (show Kd.M (Kd.int .u8) _ _ _ (((Int.tdiv t369 256) % 4294967296) % 256) [.int .u8 (((Int.tdiv t369 256) % 4294967296) % 256)] from rfl) (Reps.one (show Kd.M (Kd.int .u8) _ _ _ ((Int.tmod t369 256) % 256) [.int .u8 ((Int.tmod t369 256) % 256)] from rfl) (Reps.none _ _)))))); intro v371 w9 ho10 hb hg_ hnew_; clear hg_ hnew_; (first | rw [← Ny370.out] at ho10 | (simp only [Int.reduceToNat] at ho10; rw [← Ny370.out] at ho10)); have n0_ := Aside0.mk (Kd.R_elder' (by (with_reducible repeat (first | apply Kd.R_alloc | apply Kd.R_drewN | apply Kd.R_drew)); exact HO368.out) (Kd.R_base ho10) hb); have n1_ := Aside0.mk (Kd.R_lower (Kd.R_new' ho10 (Kd.R_lt (by (with_reducible repeat (first | apply Kd.R_alloc | apply Kd.R_drewN | apply Kd.R_drew)); exact HO368.out))) (below_size (by repeat (first | exact HB.out | apply below_alloc | apply pw_below_drewN | apply below_drew1)))); have n2_ := Aside0.mk (below_step (by repeat (first | exact HB.out | apply below_alloc | apply pw_below_drewN | apply below_drew1)) hb); clear HO368; clear HB; have HO368 := n0_; have HO372 := n1_; have HB := n2_; clear n0_ n1_ n2_; clear hb ho10; obtain ⟨Ao12, co12, eo12⟩ := Kd.R_slice HO372.out; subst eo12) | ((with_reducible refine gate_builtin (b := .append) (xs := #[.tmp 13, .tmp 28]) rfl ?_); at_builtin; refine Kd.R_append_rows (Kd.int .u8) (w0 := w) w.heap.size rfl (.tmp 13) (.tmp 28) 24 5 (.int .u8 0) 1 rfl Try.underlying24 info5 rfl (by decide) (by omega) (.slice Ao8 y366.length co8) y366 y370 _ _ _ (fun k_ => some k_ ≠ (.slice Ao12 y370.length co12 : Value).ownBlock) (fun _ => False) rfl rfl ?aO ?aR (fun _ _ h => h) (fun _ h => h.elim) ?aF ?aB ?aS ?aL ?_; (case aR => repeat (first | exact (Kd.R_reads' HO372.out).2.2 | (with_reducible refine Kd.C_alloc ?_ _) | (with_reducible refine Kd.C_drewN ?_ _) | (with_reducible refine Kd.C_drew ?_))); (case aB => exact (by repeat (first | exact HB.out | apply below_alloc | apply pw_below_drewN | apply below_drew1))); (case aF => exact (fun k_ hk => Kd.fresh' (Kd.R_lt (by (with_reducible repeat (first | apply Kd.R_alloc | apply Kd.R_drewN | apply Kd.R_drew)); exact HO372.out)) k_ hk)); (case aO => exact (by (with_reducible repeat (first | apply Kd.R_alloc | apply Kd.R_drewN | apply Kd.R_drew)); exact Kd.R_mono HO368.out (fun _ hk => hk.2))); (case aS => exact (below_size (by repeat (first | exact HB.out | apply below_alloc | apply pw_below_drewN | apply below_drew1)))); (case aL => have := LMc5.out; omega); intro v374 w11 ho hb hg hat; rw [← Ny373.out] at ho; have n0_ := Aside0.mk (Kd.R_after (ok := (fun _ => True)) (by (with_reducible repeat (first | apply Kd.R_alloc | apply Kd.R_drewN | apply Kd.R_drew)); exact HO372.out) hg hat); have n1_ := Aside0.mk (hb); have n2_ := Aside0.mk (ho); clear HO372; clear HB; clear HO368; have HO372 := n0_; have HB := n1_; have HO375 := n2_; clear n0_ n1_ n2_; clear ho hb hg hat))
   go_ret
   exact ⟨_, by first | rfl | (simp [errW_none, errW_some] <;> rfl) | (simp [*, errW_none, errW_some] <;> rfl), by (with_reducible repeat (first | apply Kd.R_alloc | apply Kd.R_drewN | apply Kd.R_drew)); exact Kd.R_mono HO375.out (fun _ hk => trivial), by repeat (first | exact HB.out | apply below_alloc | apply pw_below_drewN | apply below_drew1)⟩
  ·rw [if_neg c5] at H
   exact absurd H (by simp)
 ·rw [if_neg c3] at H
  exact absurd H (by simp)
end Go.Proofs.Ythkpnnbjcendcaa.X
end
section
open Go.RowKit Go.Proofs.Ythkpnnbjcendcaa.X Go.Proofs.Ythkpnnbjcendcaa.Pl Go.Proofs.YthkpnnbjcendcaaW.PrintWords Go.Proofs.YthkpnnbjcendcaaW.PrintLast Go.Proofs.YthkpnnbjcendcaaW.PrintMore
namespace Go.Proofs.Ythkpnnbjcendcaa.Pure
theorem bytesOf_str {xs : List Int} (h : Byt xs) : bytesOf (strOfNums xs) = xs := by
 unfold bytesOf
 rw [strOfNums_data, List.map_map]
 conv => rhs; rw [← List.map_id xs]
 refine List.map_congr_left fun n hn => ?_
 have := h n hn
 simp only [Function.comp, id]
 rw [UInt8.toNat_ofNat']
 omega
def chB (c : S109) : List Int := varint c.f0.toNat ++ varint (putB c.f1).length ++ putB c.f1
def bodyC (l : List S109) : List Int := varint l.length ++ l.flatMap chB
def bputR (l : List S109) : List Int × Int := if rightC l = true then (sealL (bodyC l), 0) else ([], 1)
theorem putB_byt (l : List S52) : Byt (putB l) := fun x hx => by
 unfold putB at hx
 rcases List.mem_append.1 hx with h | h
 ·exact varint_byt _ x h
 ·exact byt_pack _ x h
theorem chB_byt (c : S109) : Byt (chB c) := fun x hx => by
 unfold chB at hx
 rcases List.mem_append.1 hx with h | h
 ·rcases List.mem_append.1 h with h | h
  ·exact varint_byt _ x h
  ·exact varint_byt _ x h
 ·exact putB_byt _ x h
theorem bodyC_byt (l : List S109) : Byt (bodyC l) := fun x hx => by
 unfold bodyC at hx
 rcases List.mem_append.1 hx with h | h
 ·exact varint_byt _ x h
 ·obtain ⟨c, _, hc⟩ := List.mem_flatMap.1 h
  exact chB_byt c x hc
theorem varint_len64 {n : Nat} (h : n < 2 ^ 64) : 1 ≤ (varint n).length ∧ (varint n).length ≤ 10 := Sc.varint_le 9 n (Nat.lt_of_lt_of_le h (by decide))
theorem putB_len {l : List S52} (h : l.length ≤ 1024) : (putB l).length ≤ 20000 := by
 have h1 := marksP_length l 0 0 0 0
 have h2 := (varint_len64 (n := l.length) (by omega)).2
 unfold putB
 rw [List.length_append, pack_length]
 omega
structure OkC (c : S109) : Prop where
 id0 : 0 ≤ c.f0
 id1 : c.f0 < 4096
 n0 : 1 ≤ c.f1.length
 n1 : c.f1.length ≤ 1024
 up : rightB c.f1 = true
theorem okCs_all : ∀ (p : Int) (l : List S109), -1 ≤ p → okCs p l = true → ∀ c ∈ l, OkC c
 | _, [], _, _ => fun c hc => by cases hc
 | p, d :: l, hp, h => by
  rw [okCs] at h
  simp only [Bool.and_eq_true, decide_eq_true_eq] at h
  obtain ⟨⟨⟨⟨⟨h1, h2⟩, h3⟩, h4⟩, h5⟩, h6⟩ := h
  intro c hc
  rcases List.mem_cons.1 hc with rfl | hc
  ·exact ⟨by omega, h2, h3, h4, h5⟩
  ·exact okCs_all d.f0 l (by omega) h6 c hc
theorem rightC_all {l : List S109} (h : rightC l = true) : (∀ c ∈ l, OkC c) ∧ 1 ≤ l.length ∧ l.length ≤ 200 := by
 unfold rightC at h
 simp only [Bool.and_eq_true, decide_eq_true_eq] at h
 exact ⟨okCs_all (-1) l (by omega) h.1.1, h.1.2, h.2⟩
theorem putR_ok {c : S109} (h : OkC c) : putR c.f1 = (putB c.f1, 0) := by
 unfold putR
 rw [if_neg (by have := h.n1; omega), if_neg (by rw [h.up]; decide)]
theorem chB_len {c : S109} (h : OkC c) : (chB c).length ≤ 20020 := by
 have h1 := (varint_len64 (n := c.f0.toNat) (by have := h.id1; omega)).2
 have h3 := putB_len h.n1
 have h2 := (varint_len64 (n := (putB c.f1).length) (by omega)).2
 unfold chB
 rw [List.length_append, List.length_append]
 omega
theorem flat_len : ∀ (l : List S109), (∀ c ∈ l, OkC c) → (l.flatMap chB).length ≤ 20020 * l.length
 | [], _ => by simp
 | c :: l, h => by
  rw [List.flatMap_cons, List.length_append, List.length_cons]
  have h1 := chB_len (h c List.mem_cons_self)
  have h2 := flat_len l (fun d hd => h d (List.mem_cons_of_mem _ hd))
  omega
theorem bodyC_len {l : List S109} (h : rightC l = true) : (bodyC l).length ≤ 4004010 := by
 obtain ⟨h1, h2, h3⟩ := rightC_all h
 have := flat_len l h1
 have h4 := (varint_len64 (n := l.length) (by omega)).2
 unfold bodyC
 rw [List.length_append]
 omega
theorem bright_from (l : List S109) (hl : l.length < 1000000000) (hE : ∀ c ∈ l, c.f1.length < 1000000000) (d : Nat) : ∀ (i : Nat) (p : Int), l.length - i = d → i ≤ l.length →
  Ev (fun k => block_Right.l0 k l p l (l.length : Int) (i : Int)) (okCs p (l.drop i) && decide (1 ≤ l.length) && decide (l.length ≤ 200)) := by
 induction d with
 | zero =>
  intro i p hd hi
  refine ev_succ (fun k => by rw [block_Right.l0]) (ev_neg (by omega) ?_)
  rw [List.drop_eq_nil_of_le (by omega), okCs, Bool.true_and]
  by_cases h1 : 1 ≤ l.length
  ·refine ev_pos (by omega) (ev_eq (Ev.now _) ?_)
   rw [decide_eq_true h1, Bool.true_and]
   by_cases h2 : l.length ≤ 200
   ·rw [decide_eq_true h2, decide_eq_true (by omega)]
   ·rw [decide_eq_false h2, decide_eq_false (by omega)]
  ·refine ev_neg (by omega) (ev_eq (Ev.now _) ?_)
   rw [decide_eq_false h1, Bool.false_and]
 | succ d ih =>
  intro i p hd hi
  have hlt : i < l.length := by omega
  have hw : wrap64 ((i : Int) + 1) = ((i + 1 : Nat) : Int) := by rw [w64 (by omega) (by omega)]; omega
  rw [okCs_step hlt]
  have hc := hE _ (List.getElem_mem hlt)
  refine ev_succ (fun k => by rw [block_Right.l0]) (ev_pos (by omega) (ev_pos (by omega) (ev_pos (by omega) ?_)))
  rw [rd109_at l i hlt, hw]
  by_cases c1 : l[i].f0 ≤ p
  ·exact ev_pos c1 (ev_eq (Ev.now _) (by rw [decide_eq_false (show ¬ p < l[i].f0 by omega)]; simp))
  ·refine ev_neg c1 ?_
   rw [decide_eq_true (show p < l[i].f0 by omega)]
   by_cases c2 : l[i].f0 ≥ 4096
   ·exact ev_pos c2 (ev_eq (Ev.now _) (by rw [decide_eq_false (show ¬ l[i].f0 < 4096 by omega)]; simp))
   ·refine ev_neg c2 ?_
    rw [decide_eq_true (show l[i].f0 < 4096 by omega)]
    by_cases c3 : l[i].f1.length = 0
    ·exact ev_pos (by omega) (ev_eq (Ev.now _) (by rw [decide_eq_false (show ¬ 1 ≤ l[i].f1.length by omega)]; simp))
    ·refine ev_neg (by omega) ?_
     rw [decide_eq_true (show 1 ≤ l[i].f1.length by omega)]
     by_cases c4 : l[i].f1.length ≤ 1024
     ·refine ev_neg (by omega) (ev_bind (right_ev l[i].f1 (by omega)) ?_)
      rw [decide_eq_true c4]
      cases hr : rightB l[i].f1
      ·exact ev_neg (by simp) (ev_eq (Ev.now _) (by simp))
      ·refine ev_pos rfl (ev_eq (ih (i + 1) l[i].f0 (by omega) (by omega)) ?_)
       simp
     ·exact ev_pos (by omega) (ev_eq (Ev.now _) (by rw [decide_eq_false c4]; simp))
theorem bright_ev (l : List S109) (hl : l.length < 1000000000) (hE : ∀ c ∈ l, c.f1.length < 1000000000) : Ev (fun k => block_Right.f k l) (rightC l) := bright_from l hl hE _ 0 (-1) rfl (Nat.zero_le _)
theorem oput_f {b : List Int} {n : Nat} (h : b.length ≤ 100000000) (hn : n < 2 ^ 64) : octs_Put.f b (n : Int) = some (b ++ varint n) := by
 unfold octs_Put.f
 rw [if_pos ⟨h, by omega, by omega⟩, Int.toNat_natCast]
theorem otext_f {b p : List Int} (h : b.length ≤ 50000000) (hp : p.length ≤ 1000000) (hb : Byt p) : octs_PutText.f b (strOfNums p) = some (b ++ varint p.length ++ p) := by
 unfold octs_PutText.f
 have hv := (varint_len64 (n := p.length) (by omega)).2
 rw [strOfNums_size, w_u64 (by omega) (by omega), oput_f (by omega) (by omega), Option.bind_some, List.length_append, if_pos (by omega), bytesOf_str hb]
theorem seal_f {b : List Int} (h : b.length ≤ 10000000) (hb : Byt b) : seal_Put.f b = some (sealL b) := by
 unfold seal_Put.f
 have hv := (varint_len64 (n := b.length) (by omega)).2
 have hy : Byt (varint b.length ++ b) := fun x hx => (List.mem_append.1 hx).elim (varint_byt _ x) (hb x)
 have hs : seal_Sum.f (varint b.length ++ b) = some (sumN (varint b.length ++ b) : Int) := if_pos ⟨by rw [List.length_append]; omega, (bytB_iff _).2 hy⟩
 rw [w_u64 (by omega) (by omega), oput_f (by simp) (by omega), Option.bind_some, List.nil_append, if_pos (by omega), Option.bind_some, hs, Option.bind_some, Option.bind_some, if_pos (by rw [List.length_append]; simp; omega)]
 unfold sealL footL
 have hl := sumN_lt hy
 congr 3 <;> simp
theorem rtext_ev {b p : List Int} (h : b.length ≤ 50000000) (hp : p.length ≤ 1000000) (hb : Byt p) : Ev (fun k => marigraphref01_PutText.f k b (strOfNums p)) (b ++ varint p.length ++ p) := by
 unfold marigraphref01_PutText.f
 have hv := (varint_len64 (n := p.length) (by omega)).2
 rw [strOfNums_size, w_u64 (by omega) (by omega)]
 refine ev_bind (ref_put_ev b p.length (by omega) (by omega)) (ev_pos (by rw [List.length_append]; omega) (ev_eq (Ev.now _) ?_))
 rw [bytesOf_str hb]
theorem rsum_in (b : List Int) (r : Int) (i : Nat) (d : Nat) : ∀ (k s : Nat), 8 - k = d → k ≤ 8 → s < 4294967296 → Ev (fun q => marigraphref03_Sum.l0 q b ((crcK d s : Nat) : Int) (wrap64 ((i : Int) + 1))) r → Ev (fun q => marigraphref03_Sum.l1 q b (s : Int) (i : Int) (k : Int)) r := by
 induction d with
 | zero =>
  intro k s hd hk hs h
  refine ev_succ (fun q => by rw [marigraphref03_Sum.l1]) (ev_neg (by omega) ?_)
  rw [crcK_zero] at h
  exact h
 | succ d ih =>
  intro k s hd hk hs h
  have hw : wrap64 ((k : Int) + 1) = ((k + 1 : Nat) : Int) := by rw [w64 (by omega) (by omega)]; omega
  rw [crcK_one] at h
  refine ev_succ (fun q => by rw [marigraphref03_Sum.l1]) (ev_pos (by omega) ?_)
  rw [hw]
  have := ih (k + 1) (crc1 s) (by omega) (by omega) (crc1_lt hs) h
  by_cases c : s < 2147483648
  ·refine ev_pos (by omega) ?_
   have e : 2 * (s : Int) % 4294967296 = ((crc1 s : Nat) : Int) := by unfold crc1; rw [if_pos c]; omega
   rw [e]
   exact this
  ·refine ev_neg (by omega) ?_
   have e : Go.bits .xor .u32 ((2 * (((s : Int) - 2147483648) % 4294967296)) % 4294967296) 79764919 = ((crc1 s : Nat) : Int) := by
    have e1 : (2 * (((s : Int) - 2147483648) % 4294967296)) % 4294967296 = ((2 * (s - 2147483648) : Nat) : Int) := by omega
    rw [e1]
    have := u32_xor_nat (2 * (s - 2147483648)) 79764919 (by omega) (by decide)
    unfold crc1
    rw [if_neg c]
    exact this
   rw [e]
   exact this
theorem rsum_out (b : List Int) (hb : Byt b) (hl : b.length < 4611686018427387904) (d : Nat) : ∀ i : Nat, b.length - i = d → i ≤ b.length → Ev (fun q => marigraphref03_Sum.l0 q b ((crcL 4294967295 (b.take i) : Nat) : Int) (i : Int)) (sumN b : Int) := by
 induction d with
 | zero =>
  intro i hd hi
  refine ev_succ (fun q => by rw [marigraphref03_Sum.l0]) (ev_neg (by omega) (ev_eq (Ev.now _) ?_))
  rw [List.take_of_length_le (by omega)]
  have := u32_xor_nat (crcL 4294967295 b) 4294967295 (crcL_lt hb (by decide)) (by decide)
  unfold sumN
  exact this
 | succ d ih =>
  intro i hd hi
  have hlt : i < b.length := by omega
  have hw : wrap64 ((i : Int) + 1) = ((i + 1 : Nat) : Int) := by rw [w64 (by omega) (by omega)]; omega
  have hbi := hb b[i] (List.getElem_mem hlt)
  have hs := crcL_lt (b := b.take i) (fun y hy => hb y (List.mem_of_mem_take hy)) (s := 4294967295) (by decide)
  have h := ih (i + 1) (by omega) (by omega)
  rw [crcL_take_succ _ _ _ hlt] at h
  refine ev_succ (fun q => by rw [marigraphref03_Sum.l0]) (ev_pos (by omega) (ev_pos (by omega) ?_))
  have er : rd b (i : Int) = b[i] := by rw [rd_get, getD_lt _ _ _ hlt]
  have e1 : ((b[i] % 4294967296) * 16777216) % 4294967296 = ((b[i].toNat * 16777216 : Nat) : Int) := by omega
  rw [er, e1, u32_xor_nat _ _ hs (by omega)]
  refine rsum_in b _ i 8 0 _ rfl (by omega) (Nat.xor_lt_two_pow (n := 32) hs (by omega)) ?_
  rw [hw]
  exact h
theorem rsum_ev (b : List Int) (hb : Byt b) (hl : b.length < 4611686018427387904) : Ev (fun q => marigraphref03_Sum.f q b) (sumN b : Int) := by
 have := rsum_out b hb hl _ 0 rfl (Nat.zero_le _)
 rw [List.take_zero, crcL_nil] at this
 exact this
theorem rseal_ev {b : List Int} (h : b.length ≤ 10000000) (hb : Byt b) : Ev (fun k => marigraphref03_Put.f k b) (sealL b) := by
 unfold marigraphref03_Put.f
 have hv := (varint_len64 (n := b.length) (by omega)).2
 have hy : Byt (varint b.length ++ b) := fun x hx => (List.mem_append.1 hx).elim (varint_byt _ x) (hb x)
 rw [w_u64 (by omega) (by omega)]
 refine ev_bind (ref_put_ev [] b.length (by simp) (by omega)) (ev_pos (by rw [List.nil_append]; omega) (ev_some ?_))
 rw [List.nil_append]
 refine ev_bind (rsum_ev _ hy (by rw [List.length_append]; omega)) (ev_some (ev_pos (by rw [List.length_append]; simp; omega) (ev_eq (Ev.now _) ?_)))
 have hl := sumN_lt hy
 have hs : 0 ≤ ((sumN (varint b.length ++ b) : Nat) : Int) := by omega
 unfold sealL footL
 rw [tdiv_pos hs, tdiv_pos hs, tdiv_pos hs, tmod_pos hs]
 congr 1
 generalize sumN (varint b.length ++ b) = s at *
 simp only [List.cons.injEq, and_true]
 omega
end Go.Proofs.Ythkpnnbjcendcaa.Pure
namespace Go.Proofs.Ythkpnnbjcendcaa.Pure
theorem foot_len (s : Nat) : (footL s).length = 4 := rfl
theorem seal_parts {x t r : List Int} {m : Nat} (h : varint m ++ r = sealL x ++ t) : m = x.length ∧ r = x ++ (footL (sumN (varint x.length ++ x)) ++ t) := by
 unfold sealL at h
 rw [List.append_assoc, List.append_assoc] at h
 exact varint_inj _ _ _ _ h
theorem seal_inj {x y r s : List Int} (h : sealL x ++ r = sealL y ++ s) : x = y ∧ r = s := by
 have h1 : varint x.length ++ (x ++ (footL (sumN (varint x.length ++ x)) ++ r)) = sealL y ++ s := by
  rw [← h]
  unfold sealL
  rw [List.append_assoc, List.append_assoc]
 obtain ⟨hl, h2⟩ := seal_parts h1
 obtain ⟨rfl, h3⟩ := List.append_inj h2 hl
 exact ⟨rfl, (List.append_inj h3 rfl).2⟩
theorem seal_made {m : Nat} {r : List Int} (hm : m + 4 ≤ r.length) (h : (r.drop m).take 4 = footL (sumN (varint m ++ r.take m))) : varint m ++ r = sealL (r.take m) ++ r.drop (m + 4) := by
 have hl : (r.take m).length = m := by rw [List.length_take]; omega
 unfold sealL
 rw [hl, ← h, List.append_assoc, List.append_assoc]
 congr 1
 rw [← List.drop_drop, List.take_append_drop, List.take_append_drop]
theorem seal_short {m : Nat} {r : List Int} (hm : r.length < m + 4) : ∀ x t, varint m ++ r ≠ sealL x ++ t := by
 intro x t h
 obtain ⟨rfl, h2⟩ := seal_parts h
 have := congrArg List.length h2
 rw [List.length_append, List.length_append, foot_len] at this
 omega
theorem seal_other {m : Nat} {r : List Int} (h : (r.drop m).take 4 ≠ footL (sumN (varint m ++ r.take m))) : ∀ x t, varint m ++ r ≠ sealL x ++ t := by
 intro x t he
 obtain ⟨rfl, h2⟩ := seal_parts he
 apply h
 rw [h2, List.drop_left, List.take_left, List.take_left' (foot_len _)]
end Go.Proofs.Ythkpnnbjcendcaa.Pure
end
section
open Go.RowKit Go.Proofs.Ythkpnnbjcendcaa.X Go.Proofs.Ythkpnnbjcendcaa.Pl Go.Proofs.Ythkpnnbjcendcaa.Sp Go.Proofs.Ythkpnnbjcendcaa.Pure Go.Proofs.YthkpnnbjcendcaaW.PrintWords Go.Proofs.YthkpnnbjcendcaaW.PrintLast Go.Proofs.YthkpnnbjcendcaaW.PrintMore
namespace Go.Proofs.Ythkpnnbjcendcaa.Sc
theorem wadd {a b c : Nat} (h : a + b = c) (hc : c < 9223372036854775808) : wrap64 ((a : Int) + (b : Int)) = (c : Int) := by rw [w64 (by omega) (by omega)]; omega
theorem wsub {a b c : Nat} (h : b + c = a) (hc : a < 9223372036854775808) : wrap64 ((a : Int) - (b : Int)) = (c : Int) := by rw [w64 (by omega) (by omega)]; omega
theorem wid {a : Nat} (hc : a < 9223372036854775808) : wrap64 (a : Int) = (a : Int) := w64 (by omega) (by omega)
theorem sum_n (A0 : Option Addr) (c0 n : Nat) (b : List Int) (s : Nat) (w : World) (hn : b.length = n) (hs : sumN b = s) (hr0 : Kd.C (Kd.int .u8) w A0 b.length b) (hby : Byt b) (hl : n < 4611686018427387904) :
  Calls Try.prog 107 #[.slice A0 n c0] w fun e w' => e = .returned (.int .u32 (s : Int)) ∧ Below w.heap.size w w' := by
 subst hn hs
 exact sum_calls A0 c0 b w hr0 hby hl
set_option maxHeartbeats 16000000 in
set_option maxRecDepth 100000 in
theorem unseal_no (A0 : Option Addr) (c0 : Nat) (b : List Int) (w : World) (hr0 : Kd.C (Kd.int .u8) w A0 b.length b) (hc0 : b.length ≤ c0) (hby : Byt b) (hl : b.length < 1000000)
  (hno : (∀ m r, m < 2 ^ 64 → b ≠ varint m ++ r) ∨ ∃ m r, m < 2 ^ 64 ∧ b = varint m ++ r ∧ r.length < m + 4) :
  Calls Try.prog 92 #[.slice A0 b.length c0] w fun e w' => e = .returned (.tuple #[.slice none 0 0, .slice none 0 0, .int .i64 6]) ∧ Below w.heap.size w w' := by
 have HB := Aside0.mk (Below.refl w.heap.size w)
 have HS := Aside0.mk (Sep.nil w.heap.size w)
 have HR := Aside0.mk hr0
 have HC := Aside0.mk hc0
 have HBY := Aside0.mk hby
 have HL := Aside0.mk hl
 clear hr0 hc0 hby hl
 rcases hno with hno | ⟨m, r, hm, hbr, hlr⟩
 ·have HNO := Aside0.mk hno
  clear hno
  go_enter Try.func92, Try.ntmps92
  go_wp2_with (first
   | (go_at_call 73; ((with_reducible refine (onew_calls A0 c0 b _ (Kd.C_below HR.out HB.out) HC.out HL.out).mono ?_); rintro e w1 ⟨g, F1, A1, c1, rfl, hs_, hb⟩; have n1_ := Aside0.mk (Sep.join (by repeat (first | exact HS.out | apply sep_alloc | apply sep_drewN | apply sep_drew)) hb (below_size (by repeat (first | exact HB.out | apply below_alloc | apply pw_below_drewN | apply below_drew1))) hs_); have n0_ := Aside0.mk (below_step (by repeat (first | exact HB.out | apply below_alloc | apply pw_below_drewN | apply below_drew1)) hb); clear HB HS hs_ hb; have HB := n0_; have HS := n1_; clear n0_ n1_))
   | (go_at_call 74; ((with_reducible refine (num_no g A1 c1 b HNO.out false w _ HB.out HS.out.own (Kd.R_reads' (Sep.R HS.out.drop)).2.2 (Kd.R_reads' (Sep.R HS.out.drop)).2.1 HBY.out HL.out).mono ?_); rintro e w2 ⟨rfl, ht⟩; obtain ⟨F_, hs_⟩ := Turned.sep ht (HS.out) rfl; have n0_ := Aside0.mk (Turned.below ht); clear HB HS ht; have HB := n0_; have HS := Aside0.mk hs_; clear n0_ hs_))
   | (go_at_call 75; ((with_reducible refine (left_calls w.heap.size g none 0 0 true _ HS.out.own).mono ?_); rintro e w3 ⟨rfl, hb⟩; have n0_ := Aside0.mk (below_step (by repeat (first | exact HB.out | apply below_alloc | apply pw_below_drewN | apply below_drew1)) hb); have n1_ := Aside0.mk (Sep.below (by repeat (first | exact HS.out | apply sep_alloc | apply sep_drewN | apply sep_drew)) hb); clear HB HS; have HB := n0_; have HS := n1_; clear n0_ n1_ hb)))
  go_ret3
  exact ⟨rfl, HB.out⟩
 ·have HM := Aside0.mk hm
  have HBR := Aside0.mk hbr
  obtain ⟨nr, hnr⟩ : ∃ n, n = r.length := ⟨_, rfl⟩
  have HNR := Aside0.mk hnr
  have hbl : b.length = (varint m).length + nr := by rw [hnr, hbr, List.length_append]
  have hnl : nr < 1000000 := by have := HL.out; omega
  rw [← hnr] at hlr
  by_cases h4 : nr < 4
  ·have c1b : decide ((nr : Int) < 4) = true := decide_eq_true (by omega)
   have c1n : decide (nr < 4) = true := decide_eq_true h4
   clear hm hbr hnr hbl hnl hlr h4
   go_enter Try.func92, Try.ntmps92
   go_wp2_with (first
    | (go_at_call 73; ((with_reducible refine (onew_calls A0 c0 b _ (Kd.C_below HR.out HB.out) HC.out HL.out).mono ?_); rintro e w1 ⟨g, F1, A1, c1, rfl, hs_, hb⟩; have n1_ := Aside0.mk (Sep.join (by repeat (first | exact HS.out | apply sep_alloc | apply sep_drewN | apply sep_drew)) hb (below_size (by repeat (first | exact HB.out | apply below_alloc | apply pw_below_drewN | apply below_drew1))) hs_); have n0_ := Aside0.mk (below_step (by repeat (first | exact HB.out | apply below_alloc | apply pw_below_drewN | apply below_drew1)) hb); clear HB HS hs_ hb; have HB := n0_; have HS := n1_; clear n0_ n1_))
    | (go_at_call 74; ((with_reducible refine (num_yes m r HM.out g A1 c1 b HBR.out false w _ HB.out HS.out.own (Kd.R_reads' (Sep.R HS.out.drop)).2.2 (Kd.R_reads' (Sep.R HS.out.drop)).2.1 HBY.out HL.out).mono ?_); rintro e w2 ⟨A2, c2, rfl, hlc, hcd, ht⟩; rw [← HNR.out] at ht; clear hlc hcd; obtain ⟨F_, hs_⟩ := Turned.sep ht (HS.out) rfl; have n0_ := Aside0.mk (Turned.below ht); clear HB HS ht; have HB := n0_; have HS := Aside0.mk hs_; clear n0_ hs_))
    | (go_at_call 75; ((with_reducible refine (left_calls w.heap.size g A2 nr c2 false _ HS.out.own).mono ?_); rintro e w3 ⟨rfl, hb⟩; have n0_ := Aside0.mk (below_step (by repeat (first | exact HB.out | apply below_alloc | apply pw_below_drewN | apply below_drew1)) hb); have n1_ := Aside0.mk (Sep.below (by repeat (first | exact HS.out | apply sep_alloc | apply sep_drewN | apply sep_drew)) hb); clear HB HS; have HB := n0_; have HS := n1_; clear n0_ n1_ hb)))
   go_ret3
   exact ⟨rfl, HB.out⟩
  ·have c1b : decide ((nr : Int) < 4) = false := decide_eq_false (by omega)
   have c1n : decide (nr < 4) = false := decide_eq_false h4
   obtain ⟨n4, hn4⟩ : ∃ n, n = nr - 4 := ⟨_, rfl⟩
   have hs4 : wrap64 ((nr : Int) - 4) = (n4 : Int) := by rw [w64 (by omega) (by omega)]; omega
   have hu4 : IntKind.u64.wrap (n4 : Int) = (n4 : Int) := w_u64 (by omega) (by omega)
   have c2b : decide ((n4 : Int) < (m : Int)) = true := decide_eq_true (by omega)
   have c2n : decide (n4 < m) = true := decide_eq_true (by omega)
   clear hm hbr hnr hbl hnl hlr h4 hn4
   go_enter Try.func92, Try.ntmps92
   go_wp2_with (first
    | (go_at_call 73; ((with_reducible refine (onew_calls A0 c0 b _ (Kd.C_below HR.out HB.out) HC.out HL.out).mono ?_); rintro e w1 ⟨g, F1, A1, c1, rfl, hs_, hb⟩; have n1_ := Aside0.mk (Sep.join (by repeat (first | exact HS.out | apply sep_alloc | apply sep_drewN | apply sep_drew)) hb (below_size (by repeat (first | exact HB.out | apply below_alloc | apply pw_below_drewN | apply below_drew1))) hs_); have n0_ := Aside0.mk (below_step (by repeat (first | exact HB.out | apply below_alloc | apply pw_below_drewN | apply below_drew1)) hb); clear HB HS hs_ hb; have HB := n0_; have HS := n1_; clear n0_ n1_))
    | (go_at_call 74; ((with_reducible refine (num_yes m r HM.out g A1 c1 b HBR.out false w _ HB.out HS.out.own (Kd.R_reads' (Sep.R HS.out.drop)).2.2 (Kd.R_reads' (Sep.R HS.out.drop)).2.1 HBY.out HL.out).mono ?_); rintro e w2 ⟨A2, c2, rfl, hlc, hcd, ht⟩; rw [← HNR.out] at ht; clear hlc hcd; obtain ⟨F_, hs_⟩ := Turned.sep ht (HS.out) rfl; have n0_ := Aside0.mk (Turned.below ht); clear HB HS ht; have HB := n0_; have HS := Aside0.mk hs_; clear n0_ hs_))
    | (go_at_call 75; ((with_reducible refine (left_calls w.heap.size g A2 nr c2 false _ HS.out.own).mono ?_); rintro e w3 ⟨rfl, hb⟩; have n0_ := Aside0.mk (below_step (by repeat (first | exact HB.out | apply below_alloc | apply pw_below_drewN | apply below_drew1)) hb); have n1_ := Aside0.mk (Sep.below (by repeat (first | exact HS.out | apply sep_alloc | apply sep_drewN | apply sep_drew)) hb); clear HB HS; have HB := n0_; have HS := n1_; clear n0_ n1_ hb)))
   go_ret3
   exact ⟨rfl, HB.out⟩
set_option maxHeartbeats 32000000 in
set_option maxRecDepth 100000 in
theorem unseal_at (A0 : Option Addr) (c0 : Nat) (b : List Int) (w : World) (hr0 : Kd.C (Kd.int .u8) w A0 b.length b) (hc0 : b.length ≤ c0) (hby : Byt b) (hl : b.length < 1000000)
  (m : Nat) (r : List Int) (hbr : b = varint m ++ r) (hmr : m + 4 ≤ r.length) :
  Calls Try.prog 92 #[.slice A0 b.length c0] w fun e w' =>
   ((r.drop m).take 4 = footL (sumN (varint m ++ r.take m)) ∧ (∃ v1 A2 c2, e = .returned (.tuple #[v1, .slice A2 (r.drop (m + 4)).length c2, .int .i64 0]) ∧ Kd.R (Kd.int .u8) 5 w' w.heap.size (fun _ => True) v1 (r.take m)) ∧ Below w.heap.size w w') ∨
   ((r.drop m).take 4 ≠ footL (sumN (varint m ++ r.take m)) ∧ e = .returned (.tuple #[.slice none 0 0, .slice none 0 0, .int .i64 6]) ∧ Below w.heap.size w w') := by
 have HB := Aside0.mk (Below.refl w.heap.size w)
 have HS := Aside0.mk (Sep.nil w.heap.size w)
 have HR := Aside0.mk hr0
 have HC := Aside0.mk hc0
 have HBY := Aside0.mk hby
 have HL := Aside0.mk hl
 obtain ⟨nr, hnr⟩ : ∃ n, n = r.length := ⟨_, rfl⟩
 have HNR := Aside0.mk hnr
 have HBR := Aside0.mk hbr
 obtain ⟨nb, hnb⟩ : ∃ n, n = b.length := ⟨_, rfl⟩
 have HNB := Aside0.mk hnb
 obtain ⟨k, hk⟩ : ∃ k, k = (varint m).length := ⟨_, rfl⟩
 have hbl : nb = k + nr := by rw [hnb, hnr, hk, hbr, List.length_append]
 rw [← hnr] at hmr
 rw [← hnb] at hl hc0
 have hm64 : m < 2 ^ 64 := by omega
 have HM := Aside0.mk hm64
 clear hm64
 obtain ⟨n4, hn4⟩ : ∃ n, n = nr - 4 := ⟨_, rfl⟩
 obtain ⟨q, hq⟩ : ∃ q, q = k + m := ⟨_, rfl⟩
 obtain ⟨q4, hq4⟩ : ∃ q4, q4 = q + 4 := ⟨_, rfl⟩
 obtain ⟨nu, hnu⟩ : ∃ n, n = (r.drop (m + 4)).length := ⟨_, rfl⟩
 have hnu2 : nu = nr - (m + 4) := by rw [hnu, List.length_drop, hnr]
 have l1 : nr < 1000000 := by omega
 have l2 : q4 ≤ nb := by omega
 have l3 : nb - q4 = nu := by omega
 have l4 : q4 - q = 4 := by omega
 have l5 : q - k = m := by omega
 have l6 : 4 + n4 = nr := by omega
 have l7 : nr + k = nb := by omega
 have l8 : m ≤ n4 := by omega
 have l9 : k ≤ q := by omega
 have l10 : q ≤ q4 := by omega
 have l11 : q ≤ nb := by omega
 have l12 : m < 1000000 := by omega
 have l13 : 4 ≤ nr := by omega
 have ht1 : b.take q = varint m ++ r.take m := by
  rw [hbr, hq, hk, List.take_append, List.take_of_length_le (Nat.le_add_right _ _), Nat.add_sub_cancel_left]
 have ht3 : (b.take q).drop k = r.take m := by rw [ht1, hk, List.drop_left]
 have ht4 : b.drop q4 = r.drop (m + 4) := by
  rw [hbr, hq4, hq, hk, Nat.add_assoc, ← List.drop_drop, List.drop_left]
 have ht2 : (b.take q4).drop q = (r.drop m).take 4 := by
  rw [hq4, List.drop_take, Nat.add_sub_cancel_left, hbr, hq, hk, ← List.drop_drop, List.drop_left]
 have HT1 := Aside0.mk ht1
 clear hbl hmr hn4 hq hq4 hnu2
 subst hnb
 obtain ⟨i05, hi05, _, hsz5, _⟩ := info_parts info5
 have hcut1 := cut_to (P := Try.prog) 24 5 .i64 Try.underlying24 hi05 A0 b.length c0 (q : Int) (by omega) (by omega) hc0
 have hcut2 := cut_mid (P := Try.prog) 24 5 .i64 .i64 Try.underlying24 hi05 1 hsz5 A0 b.length c0 (q : Int) (q4 : Int) (by omega) (by omega) (by omega) hc0
 have hcut3 := cut_mid (P := Try.prog) 24 5 .i64 .i64 Try.underlying24 hi05 1 hsz5 A0 b.length c0 (k : Int) (q : Int) (by omega) (by omega) (by omega) hc0
 have hcut4 := cut_from (P := Try.prog) 24 5 .i64 Try.underlying24 hi05 1 hsz5 A0 b.length c0 (q4 : Int) (by omega) (by omega)
 rw [Int.toNat_natCast] at hcut1
 rw [Int.toNat_natCast, Int.toNat_natCast, l4] at hcut2
 rw [Int.toNat_natCast, Int.toNat_natCast, l5] at hcut3
 rw [Int.toNat_natCast, l3] at hcut4
 obtain ⟨A5, hA5⟩ : ∃ A, A = (if c0 = q then A0 else A0.map (fun x => x.add (q * 1))) := ⟨_, rfl⟩
 obtain ⟨A6, hA6⟩ : ∃ A, A = (if c0 = k then A0 else A0.map (fun x => x.add (k * 1))) := ⟨_, rfl⟩
 obtain ⟨A7, hA7⟩ : ∃ A, A = (if c0 = q4 then A0 else A0.map (fun x => x.add (q4 * 1))) := ⟨_, rfl⟩
 obtain ⟨c5, hc5⟩ : ∃ x, x = c0 - q := ⟨_, rfl⟩
 obtain ⟨c6, hc6⟩ : ∃ x, x = c0 - k := ⟨_, rfl⟩
 obtain ⟨c7, hc7⟩ : ∃ x, x = c0 - q4 := ⟨_, rfl⟩
 rw [← hA5, ← hc5] at hcut2
 rw [← hA6, ← hc6] at hcut3
 rw [← hA7, ← hc7] at hcut4
 obtain ⟨F5, hF5⟩ : ∃ F, F = (r.drop m).take 4 := ⟨_, rfl⟩
 obtain ⟨x, hx⟩ : ∃ x, x = r.take m := ⟨_, rfl⟩
 obtain ⟨u, hu⟩ : ∃ u, u = r.drop (m + 4) := ⟨_, rfl⟩
 rw [← hF5] at ht2
 rw [← hx] at ht1 ht3
 rw [← hu] at ht4
 have e5 : F5.length = 4 := by rw [← ht2, List.length_drop, List.length_take]; omega
 have e6 : x.length = m := by rw [← ht3, List.length_drop, List.length_take]; omega
 have e7 : u.length = nu := by rw [← ht4, List.length_drop]; exact l3
 have HX1 := Aside0.mk (show Kd.C (Kd.int .u8) w A0 (b.take q).length (b.take q) from C_take' HR.out q)
 have HC5 := Aside0.mk (show Kd.C (Kd.int .u8) w A5 4 F5 by
  have := Kd.C_mid (lo := q) (hi := q4) HR.out l10 l2 HC.out
  rw [ht2, e5] at this
  rw [hA5]
  exact this)
 have HC6 := Aside0.mk (show Kd.C (Kd.int .u8) w A6 m x by
  have := Kd.C_mid (lo := k) (hi := q) HR.out l9 l11 HC.out
  rw [ht3, e6] at this
  rw [hA6]
  exact this)
 have HC7 := Aside0.mk (show Kd.C (Kd.int .u8) w A7 nu u by
  have := Kd.C_drop (m := q4) HR.out l2 HC.out
  rw [ht4, e7] at this
  rw [hA7]
  exact this)
 obtain ⟨s, hs⟩ : ∃ s, s = sumN (b.take q) := ⟨_, rfl⟩
 have hs32 : s < 4294967296 := by rw [hs]; exact sumN_lt (fun y hy => HBY.out y (List.mem_of_mem_take hy))
 have HQL := Aside0.mk (show (b.take q).length = q by rw [List.length_take]; omega)
 have HQS := Aside0.mk hs.symm
 have HQB := Aside0.mk (show Byt (b.take q) from fun y hy => HBY.out y (List.mem_of_mem_take hy))
 rw [ht1] at hs
 obtain ⟨p3, hp3⟩ : ∃ p, p = s / 16777216 := ⟨_, rfl⟩
 obtain ⟨p2, hp2⟩ : ∃ p, p = s / 65536 := ⟨_, rfl⟩
 obtain ⟨p1, hp1⟩ : ∃ p, p = s / 256 := ⟨_, rfl⟩
 obtain ⟨z3, hz3⟩ : ∃ p, p = p3 % 256 := ⟨_, rfl⟩
 obtain ⟨z2, hz2⟩ : ∃ p, p = p2 % 256 := ⟨_, rfl⟩
 obtain ⟨z1, hz1⟩ : ∃ p, p = p1 % 256 := ⟨_, rfl⟩
 obtain ⟨z0, hz0⟩ : ∃ p, p = s % 256 := ⟨_, rfl⟩
 have hfoot : footL s = [(z3 : Int), (z2 : Int), (z1 : Int), (z0 : Int)] := by
  unfold footL
  rw [← hp3, ← hp2, ← hp1, hz3, hz2, hz1, hz0]
  simp
 obtain ⟨V, hV⟩ : ∃ V, V = [(z3 : Int), (z2 : Int), (z1 : Int), (z0 : Int)] := ⟨_, rfl⟩
 have hVU := str_inj (xs := F5) (ys := V) (fun y hy => HBY.out y (List.mem_of_mem_take (List.mem_of_mem_drop (ht2 ▸ hy)))) (by rw [hV, ← hfoot]; exact footL_byt s)
 obtain ⟨sV, hsV⟩ : ∃ s, s = strOfNums V := ⟨_, rfl⟩
 obtain ⟨sU, hsU⟩ : ∃ s, s = strOfNums F5 := ⟨_, rfl⟩
 rw [← hsV, ← hsU] at hVU
 have HSV := Aside0.mk hsV
 have HSU := Aside0.mk hsU
 have HV := Aside0.mk hV
 have g3 : (s : Int) / 2 ^ 24 = (p3 : Int) := by omega
 have g3b : (s : Int) / 16777216 = (p3 : Int) := by omega
 have g2 : (s : Int) / 2 ^ 16 = (p2 : Int) := by omega
 have g2b : (s : Int) / 65536 = (p2 : Int) := by omega
 have g1 : (s : Int) / 2 ^ 8 = (p1 : Int) := by omega
 have g1b : (s : Int) / 256 = (p1 : Int) := by omega
 have y3 : IntKind.u8.wrap (p3 : Int) = (z3 : Int) := by rw [IntKind.wrap_u8']; omega
 have y2 : IntKind.u8.wrap (p2 : Int) = (z2 : Int) := by rw [IntKind.wrap_u8']; omega
 have y1 : IntKind.u8.wrap (p1 : Int) = (z1 : Int) := by rw [IntKind.wrap_u8']; omega
 have y0 : IntKind.u8.wrap (s : Int) = (z0 : Int) := by rw [IntKind.wrap_u8']; omega
 have c1b : decide ((nr : Int) < 4) = false := decide_eq_false (by omega)
 have c1n : decide (nr < 4) = false := decide_eq_false (by omega)
 have c2b : decide ((n4 : Int) < (m : Int)) = false := decide_eq_false (by omega)
 have c2n : decide (n4 < m) = false := decide_eq_false (by omega)
 have k1 := eq_true l11
 have k2 := eq_true l2
 have k3 := eq_true l9
 have k4 := eq_true l10
 have HQ6 := Aside0.mk (show q < 4611686018427387904 by omega)
 have HML := Aside0.mk l12
 have HNUL := Aside0.mk (show nu < 1000000 by omega)
 have HAL := Aside0.mk (show (([] : List Int).length + m) * 1 ≤ 140737488355328 by rw [List.length_nil]; omega)
 have HBL := Aside0.mk (show (([] : List Int).length + nu) * 1 ≤ 140737488355328 by rw [List.length_nil]; omega)
 have hs4 : wrap64 ((nr : Int) - 4) = (n4 : Int) := wsub (b := 4) l6 (by omega)
 have hkw : wrap64 ((b.length : Int) - (nr : Int)) = (k : Int) := wsub l7 (by omega)
 have hmw : wrap64 (m : Int) = (m : Int) := wid (by omega)
 have l14 : k + m = q := by clear hs4 hkw hmw; omega
 have hqw : wrap64 ((k : Int) + (m : Int)) = (q : Int) := wadd l14 (by clear hs4 hkw hmw; omega)
 have hq4w : wrap64 ((q : Int) + 4) = (q4 : Int) := wadd (b := 4) (by clear hs4 hkw hmw hqw; omega) (by clear hs4 hkw hmw hqw; omega)
 have hu4 : IntKind.u64.wrap (n4 : Int) = (n4 : Int) := by clear hs4 hkw hmw hqw hq4w; exact w_u64 (by omega) (by omega)
 clear hi05 hsz5 hA5 hA6 hA7 hc5 hc6 hc7 ht1 ht2 ht3 ht4 HT1 hs32 hp3 hp2 hp1 hz3 hz2 hz1 hz0 l1 l2 l3 l4 l5 l6 l7 l8 l9 l10 l11 l12 l13 l14 hnr hl hby hc0 hr0 hnu hk hbr
 by_cases heq : sU = sV
 ·have c8 := bytes_eq heq
  have HEQ := Aside0.mk (show F5 = footL (sumN (varint m ++ x)) by rw [← hs, hfoot, ← hV]; exact hVU.1 heq)
  rw [← hF5, ← hx, ← hu]
  have HE7 := Aside0.mk e7
  clear heq hVU hs hfoot hV hsV hsU hF5 hx e5 hu e6 e7
  go_enter Try.func92, Try.ntmps92
  go_wp2_with (first
   | (go_at_call 73; ((with_reducible refine (onew_calls A0 c0 b _ (Kd.C_below HR.out HB.out) HC.out HL.out).mono ?_); rintro e w1 ⟨g, F1, A1, c1, rfl, hs_, hb⟩; have n1_ := Aside0.mk (Sep.join (by repeat (first | exact HS.out | apply sep_alloc | apply sep_drewN | apply sep_drew)) hb (below_size (by repeat (first | exact HB.out | apply below_alloc | apply pw_below_drewN | apply below_drew1))) hs_); have n0_ := Aside0.mk (below_step (by repeat (first | exact HB.out | apply below_alloc | apply pw_below_drewN | apply below_drew1)) hb); clear HB HS hs_ hb; have HB := n0_; have HS := n1_; clear n0_ n1_))
   | (go_at_call 74; ((with_reducible refine (num_yes m r HM.out g A1 c1 b HBR.out false w _ HB.out HS.out.own (Kd.R_reads' (Sep.R HS.out.drop)).2.2 (Kd.R_reads' (Sep.R HS.out.drop)).2.1 HBY.out HL.out).mono ?_); rintro e w2 ⟨A2, c2, rfl, hlc, hcd, ht⟩; rw [← HNR.out] at ht; clear hlc hcd; obtain ⟨F_, hs_⟩ := Turned.sep ht (HS.out) rfl; have n0_ := Aside0.mk (Turned.below ht); clear HB HS ht; have HB := n0_; have HS := Aside0.mk hs_; clear n0_ hs_))
   | (go_at_call 75; ((with_reducible refine (left_calls w.heap.size g A2 nr c2 false _ HS.out.own).mono ?_); rintro e w3 ⟨rfl, hb⟩; have n0_ := Aside0.mk (below_step (by repeat (first | exact HB.out | apply below_alloc | apply pw_below_drewN | apply below_drew1)) hb); have n1_ := Aside0.mk (Sep.below (by repeat (first | exact HS.out | apply sep_alloc | apply sep_drewN | apply sep_drew)) hb); clear HB HS; have HB := n0_; have HS := n1_; clear n0_ n1_ hb))
   | (go_at_call 107; ((with_reducible refine (sum_n A0 c0 q (b.take q) s _ HQL.out HQS.out (Kd.C_below HX1.out HB.out) HQB.out HQ6.out).mono ?_); rintro e w4 ⟨rfl, hb⟩; have n0_ := Aside0.mk (below_step (by repeat (first | exact HB.out | apply below_alloc | apply pw_below_drewN | apply below_drew1)) hb); have n1_ := Aside0.mk (Sep.below (by repeat (first | exact HS.out | apply sep_alloc | apply sep_drewN | apply sep_drew)) hb); clear HB HS; have HB := n0_; have HS := n1_; clear n0_ n1_ hb)))
  refine start_ (n := 20) (S := fun w' => (convert 24 9 (.slice A5 4 c5)).run Try.prog w' = .ok (.string sU) w') (ds := []) #[false, false, false, false, false, false, false, false, false, false, false, false, false, false, false, false, false, false, false, false] (by kernel_rfl) rfl rfl ((by rw [HSU.out]; exact Kd.C_string Try.underlying24 Try.underlying5 Try.underlying9 (Kd.C_below HC5.out (below_drew HB.out)))) (fun hHeld => ?_)
  have n0_ := Aside0.mk (below_drew HB.out)
  have n1_ := Aside0.mk (sep_drew HS.out)
  clear HB HS
  have HB := n0_
  have HS := n1_
  clear n0_ n1_
  generalize (World.drew w4) = wd_ at HB HS hHeld ⊢
  refine pure_ (i := 0) (N := some 38) (v := ?_) (a' := ?_) #[true, false, false, false, false, false, false, false, false, false, false, false, false, false, false, false, false, false, false, false] rfl rfl (by kernel_rfl) (fun _ _ _ h => h) (Or.inl ⟨by rfl, ?_⟩) ?_ ?_
  rotate_left
  ·intro w'
   go_simp
   with_reducible rfl
  rotate_left
  ·simp only [Act.put, sA_, sB_, sC_, i64_w, i32_w]
   rfl
  refine pure_ (i := 1) (N := some 39) (v := ?_) (a' := ?_) #[true, true, false, false, false, false, false, false, false, false, false, false, false, false, false, false, false, false, false, false] rfl rfl (by kernel_rfl) (fun _ _ _ h => h) (Or.inl ⟨by rfl, ?_⟩) ?_ ?_
  rotate_left
  ·intro w'
   go_simp
   with_reducible rfl
  rotate_left
  ·simp only [Act.put, sA_, sB_, sC_, i64_w, i32_w]
   rfl
  refine pure_ (i := 2) (N := some 40) (v := ?_) (a' := ?_) #[true, true, true, false, false, false, false, false, false, false, false, false, false, false, false, false, false, false, false, false] rfl rfl (by kernel_rfl) (fun _ _ _ h => h) (Or.inl ⟨by rfl, ?_⟩) ?_ ?_
  rotate_left
  ·intro w'
   go_simp
   with_reducible rfl
  rotate_left
  ·simp only [Act.put, sA_, sB_, sC_, i64_w, i32_w]
   rfl
  refine pure_ (i := 3) (N := some 41) (v := ?_) (a' := ?_) #[true, true, true, true, false, false, false, false, false, false, false, false, false, false, false, false, false, false, false, false] rfl rfl (by kernel_rfl) (fun _ _ _ h => h) (Or.inl ⟨by rfl, ?_⟩) ?_ ?_
  rotate_left
  ·intro w'
   go_simp
   with_reducible rfl
  rotate_left
  ·simp only [Act.put, sA_, sB_, sC_, i64_w, i32_w]
   rfl
  refine pure_ (i := 4) (N := some 42) (v := ?_) (a' := ?_) #[true, true, true, true, true, false, false, false, false, false, false, false, false, false, false, false, false, false, false, false] rfl rfl (by kernel_rfl) (fun _ _ _ h => h) (Or.inl ⟨by rfl, ?_⟩) ?_ ?_
  rotate_left
  ·intro w'
   go_simp
   with_reducible rfl
  rotate_left
  ·simp only [Act.put, sA_, sB_, sC_, i64_w, i32_w]
   rfl
  refine pure_ (i := 6) (N := some 44) (v := ?_) (a' := ?_) #[true, true, true, true, true, false, true, false, false, false, false, false, false, false, false, false, false, false, false, false] rfl rfl (by kernel_rfl) (fun _ _ _ h => h) (Or.inl ⟨by rfl, ?_⟩) ?_ ?_
  rotate_left
  ·intro w'
   go_simp
   with_reducible rfl
  rotate_left
  ·simp only [Act.put, sA_, sB_, sC_, i64_w, i32_w]
   rfl
  refine pure_ (i := 7) (N := some 45) (v := ?_) (a' := ?_) #[true, true, true, true, true, false, true, true, false, false, false, false, false, false, false, false, false, false, false, false] rfl rfl (by kernel_rfl) (fun _ _ _ h => h) (Or.inl ⟨by rfl, ?_⟩) ?_ ?_
  rotate_left
  ·intro w'
   go_simp
   with_reducible rfl
  rotate_left
  ·simp only [Act.put, sA_, sB_, sC_, i64_w, i32_w]
   rfl
  refine pure_ (i := 8) (N := some 46) (v := ?_) (a' := ?_) #[true, true, true, true, true, false, true, true, true, false, false, false, false, false, false, false, false, false, false, false] rfl rfl (by kernel_rfl) (fun _ _ _ h => h) (Or.inl ⟨by rfl, ?_⟩) ?_ ?_
  rotate_left
  ·intro w'
   go_simp
   with_reducible rfl
  rotate_left
  ·simp only [Act.put, sA_, sB_, sC_, i64_w, i32_w]
   rfl
  refine pure_ (i := 9) (N := some 47) (v := ?_) (a' := ?_) #[true, true, true, true, true, false, true, true, true, true, false, false, false, false, false, false, false, false, false, false] rfl rfl (by kernel_rfl) (fun _ _ _ h => h) (Or.inl ⟨by rfl, ?_⟩) ?_ ?_
  rotate_left
  ·intro w'
   go_simp
   with_reducible rfl
  rotate_left
  ·simp only [Act.put, sA_, sB_, sC_, i64_w, i32_w]
   rfl
  refine pure_ (i := 10) (N := some 48) (v := ?_) (a' := ?_) #[true, true, true, true, true, false, true, true, true, true, true, false, false, false, false, false, false, false, false, false] rfl rfl (by kernel_rfl) (fun _ _ _ h => h) (Or.inl ⟨by rfl, ?_⟩) ?_ ?_
  rotate_left
  ·intro w'
   go_simp
   with_reducible rfl
  rotate_left
  ·simp only [Act.put, sA_, sB_, sC_, i64_w, i32_w]
   rfl
  refine pure_ (i := 11) (N := some 49) (v := ?_) (a' := ?_) #[true, true, true, true, true, false, true, true, true, true, true, true, false, false, false, false, false, false, false, false] rfl rfl (by kernel_rfl) (fun _ _ _ h => h) (Or.inl ⟨by rfl, ?_⟩) ?_ ?_
  rotate_left
  ·intro w'
   go_simp
   with_reducible rfl
  rotate_left
  ·simp only [Act.put, sA_, sB_, sC_, i64_w, i32_w]
   rfl
  refine pure_ (i := 12) (N := some 50) (v := ?_) (a' := ?_) #[true, true, true, true, true, false, true, true, true, true, true, true, true, false, false, false, false, false, false, false] rfl rfl (by kernel_rfl) (fun _ _ _ h => h) (Or.inl ⟨by rfl, ?_⟩) ?_ ?_
  rotate_left
  ·intro w'
   go_simp
   with_reducible rfl
  rotate_left
  ·simp only [Act.put, sA_, sB_, sC_, i64_w, i32_w]
   rfl
  refine pure_ (i := 13) (N := some 51) (v := ?_) (a' := ?_) #[true, true, true, true, true, false, true, true, true, true, true, true, true, true, false, false, false, false, false, false] rfl rfl (by kernel_rfl) (fun _ _ _ h => h) (Or.inl ⟨by rfl, ?_⟩) ?_ ?_
  rotate_left
  ·intro w'
   go_simp
   with_reducible rfl
  rotate_left
  ·simp only [Act.put, sA_, sB_, sC_, i64_w, i32_w]
   rfl
  refine pure_ (i := 14) (N := some 52) (v := ?_) (a' := ?_) #[true, true, true, true, true, false, true, true, true, true, true, true, true, true, true, false, false, false, false, false] rfl rfl (by kernel_rfl) (fun _ _ _ h => h) (Or.inl ⟨by rfl, ?_⟩) ?_ ?_
  rotate_left
  ·intro w'
   go_simp
   with_reducible rfl
  rotate_left
  ·simp only [Act.put, sA_, sB_, sC_, i64_w, i32_w]
   rfl
  refine pure_ (i := 15) (N := some 53) (v := ?_) (a' := ?_) #[true, true, true, true, true, false, true, true, true, true, true, true, true, true, true, true, false, false, false, false] rfl rfl (by kernel_rfl) (fun _ _ _ h => h) (Or.inl ⟨by rfl, ?_⟩) ?_ ?_
  rotate_left
  ·intro w'
   go_simp
   with_reducible rfl
  rotate_left
  ·simp only [Act.put, sA_, sB_, sC_, i64_w, i32_w]
   rfl
  refine pure_ (i := 16) (N := some 54) (v := ?_) (a' := ?_) #[true, true, true, true, true, false, true, true, true, true, true, true, true, true, true, true, true, false, false, false] rfl rfl (by kernel_rfl) (fun _ _ _ h => h) (Or.inl ⟨by rfl, ?_⟩) ?_ ?_
  rotate_left
  ·intro w'
   go_simp
   with_reducible rfl
  rotate_left
  ·simp only [Act.put, sA_, sB_, sC_, i64_w, i32_w]
   rfl
  refine take_ (i := 5) (N := some 43) (v := ?_) (a' := ?_) #[true, true, true, true, true, true, true, true, true, true, true, true, true, true, true, true, true, false, false, false] rfl rfl (by kernel_rfl) (fun _ _ _ h => h) (Or.inl ⟨by rfl, ?_⟩) hHeld ?_ ?_
  rotate_left
  ·intro w' s0
   go_simp
   with_reducible rfl
  rotate_left
  ·simp only [Act.put, sA_, sB_, sC_, i64_w, i32_w]
   rfl
  refine one_ (i := 17) (N := some 55) #[true, true, true, true, true, true, true, true, true, true, true, true, true, true, true, true, true, true, false, false] rfl rfl (by kernel_rfl) (by decide) (fun K hK => ?_)
  refine wp_lit_step (Kd.int .u8) (w0 := w) (N := 55) (by rfl) (by rfl) 5 ([(z3 : Int), (z2 : Int), (z1 : Int), (z0 : Int)]) [.int .u8 (z3 : Int), .int .u8 (z2 : Int), .int .u8 (z1 : Int), .int .u8 (z0 : Int)] (by first | (go_simp; done) | (go_simp; rfl)) (Reps.one rfl (Reps.one rfl (Reps.one rfl (Reps.one rfl (Reps.none _ _))))) (HS.out) HB.out (by simp) ?_; intro v_ w_ F_ hs_ hb_; clear HB HS; have HB := Aside0.mk hb_; have HS := Aside0.mk hs_; clear hs_ hb_; obtain ⟨A8, c8_, e_⟩ := Kd.R_slice (Sep.R HS.out); subst e_
  have hcv : (convert 24 9 (.slice A8 4 c8_)).run Try.prog w_ = .ok (.string sV) w_ := by rw [HSV.out, HV.out]; exact own_string (P := Try.prog) Try.underlying24 Try.underlying5 Try.underlying9 (Kd.own_of_R (Sep.R HS.out))
  refine hK.out _ _ ((by rw [HSU.out]; exact Kd.C_string Try.underlying24 Try.underlying5 Try.underlying9 (Kd.C_below HC5.out HB.out))) (fun hHeld => ?_)
  clear hK K
  refine norm_ (a' := ?_) ?_ ?_
  rotate_left
  ·show Act.put _ (some 55) _ = _
   simp only [Act.put, sA_, sB_, sC_, i64_w, i32_w]
   rfl
  refine one_ (i := 18) (N := some 56) #[true, true, true, true, true, true, true, true, true, true, true, true, true, true, true, true, true, true, true, false] rfl rfl (by kernel_rfl) (by decide) (fun K hK => ?_)
  refine value_ (w1 := ?_) (v := ?_) (by rfl) rfl ?_ ?_
  rotate_left 2
  ·go_simp
   constructor
   ·rfl
   ·rfl
  clear hcv
  refine hK.out _ _ ((by rw [HSU.out]; exact Kd.C_string Try.underlying24 Try.underlying5 Try.underlying9 (Kd.C_below HC5.out HB.out))) (fun hHeld => ?_)
  clear hK K
  refine norm_ (a' := ?_) ?_ ?_
  rotate_left
  ·show Act.put _ (some 56) _ = _
   simp only [Act.put, sA_, sB_, sC_, i64_w, i32_w]
   rfl
  refine pure_ (i := 19) (N := some 57) (v := ?_) (a' := ?_) #[true, true, true, true, true, true, true, true, true, true, true, true, true, true, true, true, true, true, true, true] rfl rfl (by kernel_rfl) (fun _ _ _ h => h) (Or.inl ⟨by rfl, ?_⟩) ?_ ?_
  rotate_left
  ·intro w'
   go_simp
   with_reducible rfl
  rotate_left
  ·simp only [Act.put, sA_, sB_, sC_, i64_w, i32_w]
   rfl
  refine done_ (by kernel_rfl) ?_
  go_wp2
  clear HS
  have HS := Aside0.mk (Sep.nil w.heap.size w_)
  refine start_ (n := 15) (S := fun w' => True) (ds := []) #[false, false, false, false, false, false, false, false, false, false, false, false, false, false, false] (by kernel_rfl) rfl rfl trivial (fun hHeld => ?_)
  have n0_ := Aside0.mk (below_drew HB.out)
  have n1_ := Aside0.mk (sep_drew HS.out)
  clear HB HS
  have HB := n0_
  have HS := n1_
  clear n0_ n1_
  generalize (World.drew w_) = wd2_ at HB HS hHeld ⊢
  refine pure_ (i := 1) (N := some 59) (v := ?_) (a' := ?_) #[false, true, false, false, false, false, false, false, false, false, false, false, false, false, false] rfl rfl (by kernel_rfl) (fun _ _ _ h => h) (Or.inl ⟨by rfl, ?_⟩) ?_ ?_
  rotate_left
  ·intro w'
   go_simp
   with_reducible rfl
  rotate_left
  ·simp only [Act.put, sA_, sB_, sC_, i64_w, i32_w]
   rfl
  refine pure_ (i := 2) (N := some 60) (v := ?_) (a' := ?_) #[false, true, true, false, false, false, false, false, false, false, false, false, false, false, false] rfl rfl (by kernel_rfl) (fun _ _ _ h => h) (Or.inl ⟨by rfl, ?_⟩) ?_ ?_
  rotate_left
  ·intro w'
   go_simp
   with_reducible rfl
  rotate_left
  ·simp only [Act.put, sA_, sB_, sC_, i64_w, i32_w]
   rfl
  refine pure_ (i := 3) (N := some 61) (v := ?_) (a' := ?_) #[false, true, true, true, false, false, false, false, false, false, false, false, false, false, false] rfl rfl (by kernel_rfl) (fun _ _ _ h => h) (Or.inl ⟨by rfl, ?_⟩) ?_ ?_
  rotate_left
  ·intro w'
   go_simp
   with_reducible rfl
  rotate_left
  ·simp only [Act.put, sA_, sB_, sC_, i64_w, i32_w]
   rfl
  refine pure_ (i := 4) (N := some 62) (v := ?_) (a' := ?_) #[false, true, true, true, true, false, false, false, false, false, false, false, false, false, false] rfl rfl (by kernel_rfl) (fun _ _ _ h => h) (Or.inl ⟨by rfl, ?_⟩) ?_ ?_
  rotate_left
  ·intro w'
   go_simp
   with_reducible rfl
  rotate_left
  ·simp only [Act.put, sA_, sB_, sC_, i64_w, i32_w]
   rfl
  refine pure_ (i := 7) (N := some 65) (v := ?_) (a' := ?_) #[false, true, true, true, true, false, false, true, false, false, false, false, false, false, false] rfl rfl (by kernel_rfl) (fun _ _ _ h => h) (Or.inl ⟨by rfl, ?_⟩) ?_ ?_
  rotate_left
  ·intro w'
   go_simp
   with_reducible rfl
  rotate_left
  ·simp only [Act.put, sA_, sB_, sC_, i64_w, i32_w]
   rfl
  refine pure_ (i := 8) (N := some 66) (v := ?_) (a' := ?_) #[false, true, true, true, true, false, false, true, true, false, false, false, false, false, false] rfl rfl (by kernel_rfl) (fun _ _ _ h => h) (Or.inl ⟨by rfl, ?_⟩) ?_ ?_
  rotate_left
  ·intro w'
   go_simp
   with_reducible rfl
  rotate_left
  ·simp only [Act.put, sA_, sB_, sC_, i64_w, i32_w]
   rfl
  refine pure_ (i := 9) (N := some 67) (v := ?_) (a' := ?_) #[false, true, true, true, true, false, false, true, true, true, false, false, false, false, false] rfl rfl (by kernel_rfl) (fun _ _ _ h => h) (Or.inl ⟨by rfl, ?_⟩) ?_ ?_
  rotate_left
  ·intro w'
   go_simp
   with_reducible rfl
  rotate_left
  ·simp only [Act.put, sA_, sB_, sC_, i64_w, i32_w]
   rfl
  refine pure_ (i := 10) (N := some 68) (v := ?_) (a' := ?_) #[false, true, true, true, true, false, false, true, true, true, true, false, false, false, false] rfl rfl (by kernel_rfl) (fun _ _ _ h => h) (Or.inl ⟨by rfl, ?_⟩) ?_ ?_
  rotate_left
  ·intro w'
   go_simp
   with_reducible rfl
  rotate_left
  ·simp only [Act.put, sA_, sB_, sC_, i64_w, i32_w]
   rfl
  refine join_ (σ := Value × Value × Value) 4 #[true, true, true, true, true, true, true, true, true, true, true, false, false, false, false] (fun s => [(58, s.1), (63, s.2.1), (64, s.2.2)]) (fun s w' => Aside0 (∃ A63 c63 A64 c64 F63 F64, s.2.1 = .slice A63 x.length c63 ∧ s.2.2 = .slice A64 ([] : List Int).length c64 ∧ Sep w.heap.size w' [row F63 (Kd.int .u8) 5 w.heap.size (.slice A63 x.length c63) x, row F64 (Kd.int .u8) 5 w.heap.size (.slice A64 ([] : List Int).length c64) []] ∧ Below w.heap.size w w')) ?_ ?_
  rotate_left
  ·intro hCont
   refine two_ (i := 0) (j := 6) (Ni := some 58) (Nj := some 64) #[true, true, true, true, true, false, false, true, true, true, true, false, false, false, false] #[false, true, true, true, true, false, true, true, true, true, true, false, false, false, false] rfl rfl rfl rfl (by kernel_rfl) (by decide) (by decide) (fun K hK => ?_) (fun K hK => ?_)
   ·skip
    refine wp_lit_step (Kd.int .u8) (w0 := w) (N := 58) (by rfl) (by rfl) 5 (([] : List Int)) [] (by first | (go_simp; done) | (go_simp; rfl)) (Reps.none _ _) (HS.out) HB.out (by simp) ?_; intro v_ w_ F_ hs_ hb_; clear HB HS; have HB := Aside0.mk hb_; have HS := Aside0.mk hs_; clear hs_ hb_; obtain ⟨A58, c58, e_⟩ := Kd.R_slice (Sep.R HS.out); subst e_
    refine hK.out _ _ trivial (fun hHeld => ?_)
    clear hK K
    refine norm_ (a' := ?_) ?_ ?_
    rotate_left
    ·show Act.put _ (some 58) _ = _
     simp only [Act.put, sA_, sB_, sC_, i64_w, i32_w]
     rfl
    refine two_ (i := 5) (j := 6) (Ni := some 63) (Nj := some 64) #[true, true, true, true, true, true, false, true, true, true, true, false, false, false, false] #[true, true, true, true, true, false, true, true, true, true, true, false, false, false, false] rfl rfl rfl rfl (by kernel_rfl) (by decide) (by decide) (fun K hK => ?_) (fun K hK => ?_)
    ·skip
     refine wp_append_row_step (Kd.int .u8) (w0 := w) (by rfl) (.tmp 58) (.tmp 62) 24 5 (.int .u8 0) 1 (by rfl) Try.underlying24 info5 (by rfl) (by decide) (by decide) x A6 m c6 (HS.out) ((Kd.C_below HC6.out HB.out)) (fun _ _ h => h) HB.out (by exact HAL.out) (by rfl) (by rfl) ?_; intro v_ w_ F_ hs_ hb_; obtain ⟨O63, hy_⟩ : ∃ y_, y_ = ([] : List Int) ++ x := ⟨_, rfl⟩; rw [← hy_] at hs_; have HO63 := Aside0.mk hy_; clear hy_ HB HS; have HB := Aside0.mk hb_; have HS := Aside0.mk hs_; clear hb_ hs_; obtain ⟨A63, c63, e_⟩ := Kd.R_slice (Sep.R HS.out); subst e_
     have ho63 : x = O63 := by rw [HO63.out]; rfl
     clear HO63
     subst ho63
     refine hK.out _ _ trivial (fun hHeld => ?_)
     clear hK K
     refine norm_ (a' := ?_) ?_ ?_
     rotate_left
     ·show Act.put _ (some 63) _ = _
      simp only [Act.put, sA_, sB_, sC_, i64_w, i32_w]
      rfl
     refine one_ (i := 6) (N := some 64) #[true, true, true, true, true, true, true, true, true, true, true, false, false, false, false] rfl rfl (by kernel_rfl) (by decide) (fun K hK => ?_)
     refine wp_lit_step (Kd.int .u8) (w0 := w) (N := 64) (by rfl) (by rfl) 5 (([] : List Int)) [] (by first | (go_simp; done) | (go_simp; rfl)) (Reps.none _ _) (HS.out) HB.out (by simp) ?_; intro v_ w_ F_ hs_ hb_; clear HB HS; have HB := Aside0.mk hb_; have HS := Aside0.mk hs_; clear hs_ hb_; obtain ⟨A64, c64, e_⟩ := Kd.R_slice (Sep.R HS.out); subst e_
     have n_ := HS.out.p2
     clear HS
     have HS := Aside0.mk n_
     clear n_
     refine hK.out _ _ trivial (fun hHeld => ?_)
     clear hK K
     refine norm_ (a' := ?_) ?_ ?_
     rotate_left
     ·show Act.put _ (some 64) _ = _
      simp only [Act.put, sA_, sB_, sC_, i64_w, i32_w]
      rfl
     exact norm_ (by simp only [putAll, Act.put, sA_, sB_, sC_]) (hCont (.slice A58 ([] : List Int).length c58, .slice A63 x.length c63, .slice A64 ([] : List Int).length c64) _ ⟨A63, c63, A64, c64, _, _, rfl, rfl, HS.out, HB.out⟩)
    ·skip
     refine wp_lit_step (Kd.int .u8) (w0 := w) (N := 64) (by rfl) (by rfl) 5 (([] : List Int)) [] (by first | (go_simp; done) | (go_simp; rfl)) (Reps.none _ _) (HS.out) HB.out (by simp) ?_; intro v_ w_ F_ hs_ hb_; clear HB HS; have HB := Aside0.mk hb_; have HS := Aside0.mk hs_; clear hs_ hb_; obtain ⟨A64, c64, e_⟩ := Kd.R_slice (Sep.R HS.out); subst e_
     have n_ := HS.out.p2
     clear HS
     have HS := Aside0.mk n_
     clear n_
     refine hK.out _ _ trivial (fun hHeld => ?_)
     clear hK K
     refine norm_ (a' := ?_) ?_ ?_
     rotate_left
     ·show Act.put _ (some 64) _ = _
      simp only [Act.put, sA_, sB_, sC_, i64_w, i32_w]
      rfl
     refine one_ (i := 5) (N := some 63) #[true, true, true, true, true, true, true, true, true, true, true, false, false, false, false] rfl rfl (by kernel_rfl) (by decide) (fun K hK => ?_)
     refine wp_append_row_step (Kd.int .u8) (w0 := w) (by rfl) (.tmp 58) (.tmp 62) 24 5 (.int .u8 0) 1 (by rfl) Try.underlying24 info5 (by rfl) (by decide) (by decide) x A6 m c6 (HS.out) ((Kd.C_below HC6.out HB.out)) (fun _ _ h => h) HB.out (by exact HAL.out) (by rfl) (by rfl) ?_; intro v_ w_ F_ hs_ hb_; obtain ⟨O63, hy_⟩ : ∃ y_, y_ = ([] : List Int) ++ x := ⟨_, rfl⟩; rw [← hy_] at hs_; have HO63 := Aside0.mk hy_; clear hy_ HB HS; have HB := Aside0.mk hb_; have HS := Aside0.mk hs_; clear hb_ hs_; obtain ⟨A63, c63, e_⟩ := Kd.R_slice (Sep.R HS.out); subst e_
     have ho63 : x = O63 := by rw [HO63.out]; rfl
     clear HO63
     subst ho63
     refine hK.out _ _ trivial (fun hHeld => ?_)
     clear hK K
     refine norm_ (a' := ?_) ?_ ?_
     rotate_left
     ·show Act.put _ (some 63) _ = _
      simp only [Act.put, sA_, sB_, sC_, i64_w, i32_w]
      rfl
     exact norm_ (by simp only [putAll, Act.put, sA_, sB_, sC_]) (hCont (.slice A58 ([] : List Int).length c58, .slice A63 x.length c63, .slice A64 ([] : List Int).length c64) _ ⟨A63, c63, A64, c64, _, _, rfl, rfl, HS.out, HB.out⟩)
   ·skip
    refine wp_lit_step (Kd.int .u8) (w0 := w) (N := 64) (by rfl) (by rfl) 5 (([] : List Int)) [] (by first | (go_simp; done) | (go_simp; rfl)) (Reps.none _ _) (HS.out) HB.out (by simp) ?_; intro v_ w_ F_ hs_ hb_; clear HB HS; have HB := Aside0.mk hb_; have HS := Aside0.mk hs_; clear hs_ hb_; obtain ⟨A64, c64, e_⟩ := Kd.R_slice (Sep.R HS.out); subst e_
    refine hK.out _ _ trivial (fun hHeld => ?_)
    clear hK K
    refine norm_ (a' := ?_) ?_ ?_
    rotate_left
    ·show Act.put _ (some 64) _ = _
     simp only [Act.put, sA_, sB_, sC_, i64_w, i32_w]
     rfl
    refine one_ (i := 0) (N := some 58) #[true, true, true, true, true, false, true, true, true, true, true, false, false, false, false] rfl rfl (by kernel_rfl) (by decide) (fun K hK => ?_)
    refine wp_lit_step (Kd.int .u8) (w0 := w) (N := 58) (by rfl) (by rfl) 5 (([] : List Int)) [] (by first | (go_simp; done) | (go_simp; rfl)) (Reps.none _ _) (HS.out) HB.out (by simp) ?_; intro v_ w_ F_ hs_ hb_; clear HB HS; have HB := Aside0.mk hb_; have HS := Aside0.mk hs_; clear hs_ hb_; obtain ⟨A58, c58, e_⟩ := Kd.R_slice (Sep.R HS.out); subst e_
    refine hK.out _ _ trivial (fun hHeld => ?_)
    clear hK K
    refine norm_ (a' := ?_) ?_ ?_
    rotate_left
    ·show Act.put _ (some 58) _ = _
     simp only [Act.put, sA_, sB_, sC_, i64_w, i32_w]
     rfl
    refine one_ (i := 5) (N := some 63) #[true, true, true, true, true, true, true, true, true, true, true, false, false, false, false] rfl rfl (by kernel_rfl) (by decide) (fun K hK => ?_)
    refine wp_append_row_step (Kd.int .u8) (w0 := w) (by rfl) (.tmp 58) (.tmp 62) 24 5 (.int .u8 0) 1 (by rfl) Try.underlying24 info5 (by rfl) (by decide) (by decide) x A6 m c6 (HS.out) ((Kd.C_below HC6.out HB.out)) (fun _ _ h => h) HB.out (by exact HAL.out) (by rfl) (by rfl) ?_; intro v_ w_ F_ hs_ hb_; obtain ⟨O63, hy_⟩ : ∃ y_, y_ = ([] : List Int) ++ x := ⟨_, rfl⟩; rw [← hy_] at hs_; have HO63 := Aside0.mk hy_; clear hy_ HB HS; have HB := Aside0.mk hb_; have HS := Aside0.mk hs_; clear hb_ hs_; obtain ⟨A63, c63, e_⟩ := Kd.R_slice (Sep.R HS.out); subst e_
    have ho63 : x = O63 := by rw [HO63.out]; rfl
    clear HO63
    subst ho63
    refine hK.out _ _ trivial (fun hHeld => ?_)
    clear hK K
    refine norm_ (a' := ?_) ?_ ?_
    rotate_left
    ·show Act.put _ (some 63) _ = _
     simp only [Act.put, sA_, sB_, sC_, i64_w, i32_w]
     rfl
    exact norm_ (by simp only [putAll, Act.put, sA_, sB_, sC_]) (hCont (.slice A58 ([] : List Int).length c58, .slice A63 x.length c63, .slice A64 ([] : List Int).length c64) _ ⟨A63, c63, A64, c64, _, _, rfl, rfl, HS.out, HB.out⟩)
  rintro ⟨v58, v63, v64⟩ w9 ⟨A63, c63, A64, c64, F63, F64, e63, e64, hs_, hb_⟩
  have hHeld : True := trivial
  clear HB HS
  have HB := Aside0.mk hb_
  have HS := Aside0.mk hs_
  dsimp only at e63 e64
  subst e63 e64
  clear hs_ hb_
  refine norm_ (a' := ?_) ?_ ?_
  rotate_left
  ·simp only [putAll, Act.put, sA_, sB_, sC_]
   rfl
  refine one_ (i := 11) (N := some 69) #[true, true, true, true, true, true, true, true, true, true, true, true, false, false, false] rfl rfl (by kernel_rfl) (by decide) (fun K hK => ?_)
  refine wp_append_row_step (Kd.int .u8) (w0 := w) (by rfl) (.tmp 64) (.tmp 68) 24 5 (.int .u8 0) 1 (by rfl) Try.underlying24 info5 (by rfl) (by decide) (by decide) u A7 nu c7 (HS.out.p2) ((Kd.C_below HC7.out HB.out)) (fun _ _ h => h) HB.out (by exact HBL.out) (by rfl) (by rfl) ?_; intro v_ w_ F_ hs_ hb_; obtain ⟨O69, hy_⟩ : ∃ y_, y_ = ([] : List Int) ++ u := ⟨_, rfl⟩; rw [← hy_] at hs_; have HO69 := Aside0.mk hy_; clear hy_ HB HS; have HB := Aside0.mk hb_; have HS := Aside0.mk hs_; clear hb_ hs_; obtain ⟨A69, c69, e_⟩ := Kd.R_slice (Sep.R HS.out); subst e_
  have ho69 : u = O69 := by rw [HO69.out]; rfl
  clear HO69
  subst ho69
  refine hK.out _ _ trivial (fun hHeld => ?_)
  clear hK K
  refine norm_ (a' := ?_) ?_ ?_
  rotate_left
  ·show Act.put _ (some 69) _ = _
   simp only [Act.put, sA_, sB_, sC_, i64_w, i32_w]
   rfl
  refine pure_ (i := 12) (N := some 2) (v := ?_) (a' := ?_) #[true, true, true, true, true, true, true, true, true, true, true, true, true, false, false] rfl rfl (by kernel_rfl) (fun _ _ _ h => h) (Or.inl ⟨by rfl, ?_⟩) ?_ ?_
  rotate_left
  ·intro w'
   go_simp
   with_reducible rfl
  rotate_left
  ·simp only [Act.put, sA_, sB_, sC_, i64_w, i32_w]
   rfl
  refine pure_ (i := 13) (N := some 3) (v := ?_) (a' := ?_) #[true, true, true, true, true, true, true, true, true, true, true, true, true, true, false] rfl rfl (by kernel_rfl) (fun _ _ _ h => h) (Or.inl ⟨by rfl, ?_⟩) ?_ ?_
  rotate_left
  ·intro w'
   go_simp
   with_reducible rfl
  rotate_left
  ·simp only [Act.put, sA_, sB_, sC_, i64_w, i32_w]
   rfl
  refine pure_ (i := 14) (N := some 4) (v := ?_) (a' := ?_) #[true, true, true, true, true, true, true, true, true, true, true, true, true, true, true] rfl rfl (by kernel_rfl) (fun _ _ _ h => h) (Or.inl ⟨by rfl, ?_⟩) ?_ ?_
  rotate_left
  ·intro w'
   go_simp
   with_reducible rfl
  rotate_left
  ·simp only [Act.put, sA_, sB_, sC_, i64_w, i32_w]
   rfl
  refine done_ (by kernel_rfl) ?_
  go_wp2
  go_ret3
  exact .inl ⟨HEQ.out, ⟨.slice A63 x.length c63, A69, c69, by rw [HE7.out]; first | rfl | simp, Kd.R_mono (Sep.R HS.out.drop) (fun _ _ => trivial)⟩, HB.out⟩
 ·have c8 := bytes_ne heq
  have HEQ := Aside0.mk (show F5 ≠ footL (sumN (varint m ++ x)) by rw [← hs, hfoot, ← hV]; exact fun h => heq (hVU.2 h))
  rw [← hF5, ← hx, ← hu, e7]
  clear heq hVU hs hfoot hV hsV hsU hF5 hx e5 hu e7
  go_enter Try.func92, Try.ntmps92
  go_wp2_with (first
   | (go_at_call 73; ((with_reducible refine (onew_calls A0 c0 b _ (Kd.C_below HR.out HB.out) HC.out HL.out).mono ?_); rintro e w1 ⟨g, F1, A1, c1, rfl, hs_, hb⟩; have n1_ := Aside0.mk (Sep.join (by repeat (first | exact HS.out | apply sep_alloc | apply sep_drewN | apply sep_drew)) hb (below_size (by repeat (first | exact HB.out | apply below_alloc | apply pw_below_drewN | apply below_drew1))) hs_); have n0_ := Aside0.mk (below_step (by repeat (first | exact HB.out | apply below_alloc | apply pw_below_drewN | apply below_drew1)) hb); clear HB HS hs_ hb; have HB := n0_; have HS := n1_; clear n0_ n1_))
   | (go_at_call 74; ((with_reducible refine (num_yes m r HM.out g A1 c1 b HBR.out false w _ HB.out HS.out.own (Kd.R_reads' (Sep.R HS.out.drop)).2.2 (Kd.R_reads' (Sep.R HS.out.drop)).2.1 HBY.out HL.out).mono ?_); rintro e w2 ⟨A2, c2, rfl, hlc, hcd, ht⟩; rw [← HNR.out] at ht; clear hlc hcd; obtain ⟨F_, hs_⟩ := Turned.sep ht (HS.out) rfl; have n0_ := Aside0.mk (Turned.below ht); clear HB HS ht; have HB := n0_; have HS := Aside0.mk hs_; clear n0_ hs_))
   | (go_at_call 75; ((with_reducible refine (left_calls w.heap.size g A2 nr c2 false _ HS.out.own).mono ?_); rintro e w3 ⟨rfl, hb⟩; have n0_ := Aside0.mk (below_step (by repeat (first | exact HB.out | apply below_alloc | apply pw_below_drewN | apply below_drew1)) hb); have n1_ := Aside0.mk (Sep.below (by repeat (first | exact HS.out | apply sep_alloc | apply sep_drewN | apply sep_drew)) hb); clear HB HS; have HB := n0_; have HS := n1_; clear n0_ n1_ hb))
   | (go_at_call 107; ((with_reducible refine (sum_n A0 c0 q (b.take q) s _ HQL.out HQS.out (Kd.C_below HX1.out HB.out) HQB.out HQ6.out).mono ?_); rintro e w4 ⟨rfl, hb⟩; have n0_ := Aside0.mk (below_step (by repeat (first | exact HB.out | apply below_alloc | apply pw_below_drewN | apply below_drew1)) hb); have n1_ := Aside0.mk (Sep.below (by repeat (first | exact HS.out | apply sep_alloc | apply sep_drewN | apply sep_drew)) hb); clear HB HS; have HB := n0_; have HS := n1_; clear n0_ n1_ hb)))
  refine start_ (n := 20) (S := fun w' => (convert 24 9 (.slice A5 4 c5)).run Try.prog w' = .ok (.string sU) w') (ds := []) #[false, false, false, false, false, false, false, false, false, false, false, false, false, false, false, false, false, false, false, false] (by kernel_rfl) rfl rfl ((by rw [HSU.out]; exact Kd.C_string Try.underlying24 Try.underlying5 Try.underlying9 (Kd.C_below HC5.out (below_drew HB.out)))) (fun hHeld => ?_)
  have n0_ := Aside0.mk (below_drew HB.out)
  have n1_ := Aside0.mk (sep_drew HS.out)
  clear HB HS
  have HB := n0_
  have HS := n1_
  clear n0_ n1_
  generalize (World.drew w4) = wd_ at HB HS hHeld ⊢
  refine pure_ (i := 0) (N := some 38) (v := ?_) (a' := ?_) #[true, false, false, false, false, false, false, false, false, false, false, false, false, false, false, false, false, false, false, false] rfl rfl (by kernel_rfl) (fun _ _ _ h => h) (Or.inl ⟨by rfl, ?_⟩) ?_ ?_
  rotate_left
  ·intro w'
   go_simp
   with_reducible rfl
  rotate_left
  ·simp only [Act.put, sA_, sB_, sC_, i64_w, i32_w]
   rfl
  refine pure_ (i := 1) (N := some 39) (v := ?_) (a' := ?_) #[true, true, false, false, false, false, false, false, false, false, false, false, false, false, false, false, false, false, false, false] rfl rfl (by kernel_rfl) (fun _ _ _ h => h) (Or.inl ⟨by rfl, ?_⟩) ?_ ?_
  rotate_left
  ·intro w'
   go_simp
   with_reducible rfl
  rotate_left
  ·simp only [Act.put, sA_, sB_, sC_, i64_w, i32_w]
   rfl
  refine pure_ (i := 2) (N := some 40) (v := ?_) (a' := ?_) #[true, true, true, false, false, false, false, false, false, false, false, false, false, false, false, false, false, false, false, false] rfl rfl (by kernel_rfl) (fun _ _ _ h => h) (Or.inl ⟨by rfl, ?_⟩) ?_ ?_
  rotate_left
  ·intro w'
   go_simp
   with_reducible rfl
  rotate_left
  ·simp only [Act.put, sA_, sB_, sC_, i64_w, i32_w]
   rfl
  refine pure_ (i := 3) (N := some 41) (v := ?_) (a' := ?_) #[true, true, true, true, false, false, false, false, false, false, false, false, false, false, false, false, false, false, false, false] rfl rfl (by kernel_rfl) (fun _ _ _ h => h) (Or.inl ⟨by rfl, ?_⟩) ?_ ?_
  rotate_left
  ·intro w'
   go_simp
   with_reducible rfl
  rotate_left
  ·simp only [Act.put, sA_, sB_, sC_, i64_w, i32_w]
   rfl
  refine pure_ (i := 4) (N := some 42) (v := ?_) (a' := ?_) #[true, true, true, true, true, false, false, false, false, false, false, false, false, false, false, false, false, false, false, false] rfl rfl (by kernel_rfl) (fun _ _ _ h => h) (Or.inl ⟨by rfl, ?_⟩) ?_ ?_
  rotate_left
  ·intro w'
   go_simp
   with_reducible rfl
  rotate_left
  ·simp only [Act.put, sA_, sB_, sC_, i64_w, i32_w]
   rfl
  refine pure_ (i := 6) (N := some 44) (v := ?_) (a' := ?_) #[true, true, true, true, true, false, true, false, false, false, false, false, false, false, false, false, false, false, false, false] rfl rfl (by kernel_rfl) (fun _ _ _ h => h) (Or.inl ⟨by rfl, ?_⟩) ?_ ?_
  rotate_left
  ·intro w'
   go_simp
   with_reducible rfl
  rotate_left
  ·simp only [Act.put, sA_, sB_, sC_, i64_w, i32_w]
   rfl
  refine pure_ (i := 7) (N := some 45) (v := ?_) (a' := ?_) #[true, true, true, true, true, false, true, true, false, false, false, false, false, false, false, false, false, false, false, false] rfl rfl (by kernel_rfl) (fun _ _ _ h => h) (Or.inl ⟨by rfl, ?_⟩) ?_ ?_
  rotate_left
  ·intro w'
   go_simp
   with_reducible rfl
  rotate_left
  ·simp only [Act.put, sA_, sB_, sC_, i64_w, i32_w]
   rfl
  refine pure_ (i := 8) (N := some 46) (v := ?_) (a' := ?_) #[true, true, true, true, true, false, true, true, true, false, false, false, false, false, false, false, false, false, false, false] rfl rfl (by kernel_rfl) (fun _ _ _ h => h) (Or.inl ⟨by rfl, ?_⟩) ?_ ?_
  rotate_left
  ·intro w'
   go_simp
   with_reducible rfl
  rotate_left
  ·simp only [Act.put, sA_, sB_, sC_, i64_w, i32_w]
   rfl
  refine pure_ (i := 9) (N := some 47) (v := ?_) (a' := ?_) #[true, true, true, true, true, false, true, true, true, true, false, false, false, false, false, false, false, false, false, false] rfl rfl (by kernel_rfl) (fun _ _ _ h => h) (Or.inl ⟨by rfl, ?_⟩) ?_ ?_
  rotate_left
  ·intro w'
   go_simp
   with_reducible rfl
  rotate_left
  ·simp only [Act.put, sA_, sB_, sC_, i64_w, i32_w]
   rfl
  refine pure_ (i := 10) (N := some 48) (v := ?_) (a' := ?_) #[true, true, true, true, true, false, true, true, true, true, true, false, false, false, false, false, false, false, false, false] rfl rfl (by kernel_rfl) (fun _ _ _ h => h) (Or.inl ⟨by rfl, ?_⟩) ?_ ?_
  rotate_left
  ·intro w'
   go_simp
   with_reducible rfl
  rotate_left
  ·simp only [Act.put, sA_, sB_, sC_, i64_w, i32_w]
   rfl
  refine pure_ (i := 11) (N := some 49) (v := ?_) (a' := ?_) #[true, true, true, true, true, false, true, true, true, true, true, true, false, false, false, false, false, false, false, false] rfl rfl (by kernel_rfl) (fun _ _ _ h => h) (Or.inl ⟨by rfl, ?_⟩) ?_ ?_
  rotate_left
  ·intro w'
   go_simp
   with_reducible rfl
  rotate_left
  ·simp only [Act.put, sA_, sB_, sC_, i64_w, i32_w]
   rfl
  refine pure_ (i := 12) (N := some 50) (v := ?_) (a' := ?_) #[true, true, true, true, true, false, true, true, true, true, true, true, true, false, false, false, false, false, false, false] rfl rfl (by kernel_rfl) (fun _ _ _ h => h) (Or.inl ⟨by rfl, ?_⟩) ?_ ?_
  rotate_left
  ·intro w'
   go_simp
   with_reducible rfl
  rotate_left
  ·simp only [Act.put, sA_, sB_, sC_, i64_w, i32_w]
   rfl
  refine pure_ (i := 13) (N := some 51) (v := ?_) (a' := ?_) #[true, true, true, true, true, false, true, true, true, true, true, true, true, true, false, false, false, false, false, false] rfl rfl (by kernel_rfl) (fun _ _ _ h => h) (Or.inl ⟨by rfl, ?_⟩) ?_ ?_
  rotate_left
  ·intro w'
   go_simp
   with_reducible rfl
  rotate_left
  ·simp only [Act.put, sA_, sB_, sC_, i64_w, i32_w]
   rfl
  refine pure_ (i := 14) (N := some 52) (v := ?_) (a' := ?_) #[true, true, true, true, true, false, true, true, true, true, true, true, true, true, true, false, false, false, false, false] rfl rfl (by kernel_rfl) (fun _ _ _ h => h) (Or.inl ⟨by rfl, ?_⟩) ?_ ?_
  rotate_left
  ·intro w'
   go_simp
   with_reducible rfl
  rotate_left
  ·simp only [Act.put, sA_, sB_, sC_, i64_w, i32_w]
   rfl
  refine pure_ (i := 15) (N := some 53) (v := ?_) (a' := ?_) #[true, true, true, true, true, false, true, true, true, true, true, true, true, true, true, true, false, false, false, false] rfl rfl (by kernel_rfl) (fun _ _ _ h => h) (Or.inl ⟨by rfl, ?_⟩) ?_ ?_
  rotate_left
  ·intro w'
   go_simp
   with_reducible rfl
  rotate_left
  ·simp only [Act.put, sA_, sB_, sC_, i64_w, i32_w]
   rfl
  refine pure_ (i := 16) (N := some 54) (v := ?_) (a' := ?_) #[true, true, true, true, true, false, true, true, true, true, true, true, true, true, true, true, true, false, false, false] rfl rfl (by kernel_rfl) (fun _ _ _ h => h) (Or.inl ⟨by rfl, ?_⟩) ?_ ?_
  rotate_left
  ·intro w'
   go_simp
   with_reducible rfl
  rotate_left
  ·simp only [Act.put, sA_, sB_, sC_, i64_w, i32_w]
   rfl
  refine take_ (i := 5) (N := some 43) (v := ?_) (a' := ?_) #[true, true, true, true, true, true, true, true, true, true, true, true, true, true, true, true, true, false, false, false] rfl rfl (by kernel_rfl) (fun _ _ _ h => h) (Or.inl ⟨by rfl, ?_⟩) hHeld ?_ ?_
  rotate_left
  ·intro w' s0
   go_simp
   with_reducible rfl
  rotate_left
  ·simp only [Act.put, sA_, sB_, sC_, i64_w, i32_w]
   rfl
  refine one_ (i := 17) (N := some 55) #[true, true, true, true, true, true, true, true, true, true, true, true, true, true, true, true, true, true, false, false] rfl rfl (by kernel_rfl) (by decide) (fun K hK => ?_)
  refine wp_lit_step (Kd.int .u8) (w0 := w) (N := 55) (by rfl) (by rfl) 5 ([(z3 : Int), (z2 : Int), (z1 : Int), (z0 : Int)]) [.int .u8 (z3 : Int), .int .u8 (z2 : Int), .int .u8 (z1 : Int), .int .u8 (z0 : Int)] (by first | (go_simp; done) | (go_simp; rfl)) (Reps.one rfl (Reps.one rfl (Reps.one rfl (Reps.one rfl (Reps.none _ _))))) (HS.out) HB.out (by simp) ?_; intro v_ w_ F_ hs_ hb_; clear HB HS; have HB := Aside0.mk hb_; have HS := Aside0.mk hs_; clear hs_ hb_; obtain ⟨A8, c8_, e_⟩ := Kd.R_slice (Sep.R HS.out); subst e_
  have hcv : (convert 24 9 (.slice A8 4 c8_)).run Try.prog w_ = .ok (.string sV) w_ := by rw [HSV.out, HV.out]; exact own_string (P := Try.prog) Try.underlying24 Try.underlying5 Try.underlying9 (Kd.own_of_R (Sep.R HS.out))
  refine hK.out _ _ ((by rw [HSU.out]; exact Kd.C_string Try.underlying24 Try.underlying5 Try.underlying9 (Kd.C_below HC5.out HB.out))) (fun hHeld => ?_)
  clear hK K
  refine norm_ (a' := ?_) ?_ ?_
  rotate_left
  ·show Act.put _ (some 55) _ = _
   simp only [Act.put, sA_, sB_, sC_, i64_w, i32_w]
   rfl
  refine one_ (i := 18) (N := some 56) #[true, true, true, true, true, true, true, true, true, true, true, true, true, true, true, true, true, true, true, false] rfl rfl (by kernel_rfl) (by decide) (fun K hK => ?_)
  refine value_ (w1 := ?_) (v := ?_) (by rfl) rfl ?_ ?_
  rotate_left 2
  ·go_simp
   constructor
   ·rfl
   ·rfl
  clear hcv
  refine hK.out _ _ ((by rw [HSU.out]; exact Kd.C_string Try.underlying24 Try.underlying5 Try.underlying9 (Kd.C_below HC5.out HB.out))) (fun hHeld => ?_)
  clear hK K
  refine norm_ (a' := ?_) ?_ ?_
  rotate_left
  ·show Act.put _ (some 56) _ = _
   simp only [Act.put, sA_, sB_, sC_, i64_w, i32_w]
   rfl
  refine pure_ (i := 19) (N := some 57) (v := ?_) (a' := ?_) #[true, true, true, true, true, true, true, true, true, true, true, true, true, true, true, true, true, true, true, true] rfl rfl (by kernel_rfl) (fun _ _ _ h => h) (Or.inl ⟨by rfl, ?_⟩) ?_ ?_
  rotate_left
  ·intro w'
   go_simp
   with_reducible rfl
  rotate_left
  ·simp only [Act.put, sA_, sB_, sC_, i64_w, i32_w]
   rfl
  refine done_ (by kernel_rfl) ?_
  go_wp2
  go_ret3
  exact .inr ⟨HEQ.out, rfl, HB.out⟩
theorem unseal_calls (A0 : Option Addr) (c0 : Nat) (b : List Int) (w : World) (hr0 : Kd.C (Kd.int .u8) w A0 b.length b) (hc0 : b.length ≤ c0) (hby : Byt b) (hl : b.length < 1000000) :
  Calls Try.prog 92 #[.slice A0 b.length c0] w fun e w' =>
   (∃ x r v1 A2 c2, b = sealL x ++ r ∧ e = .returned (.tuple #[v1, .slice A2 r.length c2, .int .i64 0]) ∧ Kd.R (Kd.int .u8) 5 w' w.heap.size (fun _ => True) v1 x ∧ Below w.heap.size w w') ∨
   ((∀ x r, b ≠ sealL x ++ r) ∧ e = .returned (.tuple #[.slice none 0 0, .slice none 0 0, .int .i64 6]) ∧ Below w.heap.size w w') := by
 by_cases hex : ∃ (m : Nat) (r : List Int), m < 2 ^ 64 ∧ b = varint m ++ r
 ·obtain ⟨m, r, hm, hbr⟩ := hex
  by_cases hmr : m + 4 ≤ r.length
  ·refine (unseal_at A0 c0 b w hr0 hc0 hby hl m r hbr hmr).mono ?_
   rintro e w' (⟨h1, ⟨v1, A2, c2, h2, h3⟩, h4⟩ | ⟨h1, h2, h3⟩)
   ·exact .inl ⟨_, _, v1, A2, c2, by rw [hbr]; exact seal_made hmr h1, h2, h3, h4⟩
   ·exact .inr ⟨fun x t he => seal_other h1 x t (hbr ▸ he), h2, h3⟩
  ·refine (unseal_no A0 c0 b w hr0 hc0 hby hl (.inr ⟨m, r, hm, hbr, by omega⟩)).mono ?_
   rintro e w' ⟨h1, h2⟩
   exact .inr ⟨fun x t he => seal_short (m := m) (r := r) (by omega) x t (hbr ▸ he), h1, h2⟩
 ·refine (unseal_no A0 c0 b w hr0 hc0 hby hl (.inl fun m r hm he => hex ⟨m, r, hm, he⟩)).mono ?_
  rintro e w' ⟨h1, h2⟩
  refine .inr ⟨fun x t he => hex ⟨x.length, x ++ (footL (sumN (varint x.length ++ x)) ++ t), ?_, ?_⟩, h1, h2⟩
  ·have := congrArg List.length he
   unfold sealL at this
   simp only [List.length_append] at this
   omega
  ·rw [he]
   unfold sealL
   rw [List.append_assoc, List.append_assoc]
theorem unseal_made (A0 : Option Addr) (c0 n : Nat) (b x r : List Int) (w : World) (hn : b.length = n) (hb : b = sealL x ++ r) (hr0 : Kd.C (Kd.int .u8) w A0 b.length b) (hc0 : n ≤ c0) (hby : Byt b) (hl : n < 1000000) :
  Calls Try.prog 92 #[.slice A0 n c0] w fun e w' => ∃ v1 A2 c2, e = .returned (.tuple #[v1, .slice A2 r.length c2, .int .i64 0]) ∧ Kd.R (Kd.int .u8) 5 w' w.heap.size (fun _ => True) v1 x ∧ Below w.heap.size w w' := by
 subst hn
 refine (unseal_calls A0 c0 b w hr0 hc0 hby hl).mono ?_
 rintro e w' (⟨x1, r1, v1, A2, c2, h1, h2, h3, h4⟩ | ⟨h1, _⟩)
 ·obtain ⟨rfl, rfl⟩ := seal_inj (hb.symm.trans h1)
  exact ⟨v1, A2, c2, h2, h3, h4⟩
 ·exact absurd hb (h1 x r)
theorem unseal_none (A0 : Option Addr) (c0 n : Nat) (b : List Int) (w : World) (hn : b.length = n) (hb : ∀ x r, b ≠ sealL x ++ r) (hr0 : Kd.C (Kd.int .u8) w A0 b.length b) (hc0 : n ≤ c0) (hby : Byt b) (hl : n < 1000000) :
  Calls Try.prog 92 #[.slice A0 n c0] w fun e w' => e = .returned (.tuple #[.slice none 0 0, .slice none 0 0, .int .i64 6]) ∧ Below w.heap.size w w' := by
 subst hn
 refine (unseal_calls A0 c0 b w hr0 hc0 hby hl).mono ?_
 rintro e w' (⟨x1, r1, v1, A2, c2, h1, _⟩ | ⟨_, h2⟩)
 ·exact absurd h1 (hb x1 r1)
 ·exact h2
end Go.Proofs.Ythkpnnbjcendcaa.Sc
end
section
open Go.RowKit Go.Proofs.Ythkpnnbjcendcaa.X Go.Proofs.Ythkpnnbjcendcaa.Pl Go.Proofs.YthkpnnbjcendcaaW.PrintWords Go.Proofs.YthkpnnbjcendcaaW.PrintLast Go.Proofs.YthkpnnbjcendcaaW.PrintMore
namespace Go.Proofs.Ythkpnnbjcendcaa.Pure
structure EOk (c : S109) : Prop where
 id0 : 0 ≤ c.f0
 id1 : c.f0 < 4096
 fit : fitP c.f1
 put : putR c.f1 = (putB c.f1, 0)
theorem putR_B {l : List S52} {b : List Int} (h : putR l = (b, 0)) : putR l = (putB l, 0) ∧ b = putB l ∧ l.length ≤ 1024 := by
 have hp : putR l = if l.length > 1024 then ([], 3) else if rightB l = false then ([], 1) else (putB l, 0) := rfl
 by_cases h1 : l.length > 1024
 ·rw [hp, if_pos h1] at h
  injection h with _ h; exact absurd h (by decide)
 ·rw [if_neg h1] at hp
  by_cases h2 : rightB l = false
  ·rw [hp, if_pos h2] at h
   injection h with _ h; exact absurd h (by decide)
  ·rw [if_neg h2] at hp
   rw [hp] at h
   injection h with h _
   exact ⟨hp, h.symm, by omega⟩
theorem OkC.eok {c : S109} (h : OkC c) (hf : fitP c.f1) : EOk c := ⟨h.id0, h.id1, hf, putR_ok h⟩
theorem chB_app (c : S109) (r : List Int) : chB c ++ r = varint c.f0.toNat ++ (varint (putB c.f1).length ++ (putB c.f1 ++ r)) := by
 unfold chB
 rw [List.append_assoc, List.append_assoc]
theorem chB_inj {c d : S109} {r s : List Int} (hc : EOk c) (hd : EOk d) (h : chB c ++ r = chB d ++ s) : c = d ∧ r = s := by
 rw [chB_app, chB_app] at h
 obtain ⟨h1, h⟩ := varint_inj _ _ _ _ h
 obtain ⟨h2, h⟩ := varint_inj _ _ _ _ h
 obtain ⟨h3, h4⟩ := List.append_inj h h2
 refine ⟨?_, h4⟩
 have h5 := put_inj hc.fit hd.fit hc.put (h3 ▸ hd.put)
 have h6 : c.f0 = d.f0 := by have := hc.id0; have := hd.id0; omega
 cases c; cases d
 simp only at h5 h6
 rw [h5, h6]
theorem flat_inj : ∀ (l k : List S109) (r s : List Int), l.length = k.length → (∀ c ∈ l, EOk c) → (∀ c ∈ k, EOk c) → l.flatMap chB ++ r = k.flatMap chB ++ s → l = k ∧ r = s
 | [], [], r, s, _, _, _, h => ⟨rfl, by simpa using h⟩
 | [], d :: k, r, s, hl, _, _, _ => by simp at hl
 | c :: l, [], r, s, hl, _, _, _ => by simp at hl
 | c :: l, d :: k, r, s, hl, hc, hd, h => by
  rw [List.flatMap_cons, List.flatMap_cons, List.append_assoc, List.append_assoc] at h
  obtain ⟨rfl, h2⟩ := chB_inj (hc c List.mem_cons_self) (hd d List.mem_cons_self) h
  obtain ⟨rfl, rfl⟩ := flat_inj l k r s (by simpa using hl) (fun e he => hc e (List.mem_cons_of_mem _ he)) (fun e he => hd e (List.mem_cons_of_mem _ he)) h2
  exact ⟨rfl, rfl⟩
def fitL (l : List S109) : Prop := ∀ c ∈ l, fitP c.f1
open Classical in
noncomputable def btakeR (b : List Int) : List S109 × Int := if h : ∃ l, fitL l ∧ bputR l = (b, 0) then (h.choose, 0) else ([], 90)
theorem bput_right {l : List S109} {b : List Int} (h : bputR l = (b, 0)) : rightC l = true ∧ b = sealL (bodyC l) := by
 unfold bputR at h
 split at h
 ·rename_i hr
  injection h with h _
  exact ⟨hr, h.symm⟩
 ·injection h with _ h; exact absurd h (by decide)
theorem bput_of {l : List S109} (h : rightC l = true) : bputR l = (sealL (bodyC l), 0) := by unfold bputR; rw [if_pos h]
theorem right_eok {l : List S109} (h : rightC l = true) (hf : fitL l) : ∀ c ∈ l, EOk c := fun c hc => ((rightC_all h).1 c hc).eok (hf c hc)
theorem body_inj {l k : List S109} (hl : ∀ c ∈ l, EOk c) (hk : ∀ c ∈ k, EOk c) (h : bodyC l = bodyC k) : l = k := by
 unfold bodyC at h
 obtain ⟨h1, h2⟩ := varint_inj _ _ _ _ h
 exact (flat_inj l k [] [] h1 hl hk (by rw [h2])).1
theorem bput_inj {l k : List S109} {b : List Int} (hl : fitL l) (hk : fitL k) (h1 : bputR l = (b, 0)) (h2 : bputR k = (b, 0)) : l = k := by
 obtain ⟨r1, e1⟩ := bput_right h1
 obtain ⟨r2, e2⟩ := bput_right h2
 have h := seal_inj (x := bodyC l) (y := bodyC k) (r := []) (s := []) (by rw [← e1, ← e2])
 exact body_inj (right_eok r1 hl) (right_eok r2 hk) h.1
theorem btake_put {l : List S109} {b : List Int} (hl : fitL l) (h : bputR l = (b, 0)) : btakeR b = (l, 0) := by
 have hex : ∃ l, fitL l ∧ bputR l = (b, 0) := ⟨l, hl, h⟩
 unfold btakeR
 rw [dif_pos hex, bput_inj hex.choose_spec.1 hl hex.choose_spec.2 h]
theorem btake_no {b : List Int} (h : ∀ l, fitL l → bputR l ≠ (b, 0)) : btakeR b = ([], 90) := by
 unfold btakeR
 rw [dif_neg]
 rintro ⟨l, h1, h2⟩
 exact h l h1 h2
theorem btake_ok {b : List Int} (h : (btakeR b).2 = 0) : fitL (btakeR b).1 ∧ bputR (btakeR b).1 = (b, 0) := by
 unfold btakeR at h ⊢
 split
 ·rename_i hex
  exact hex.choose_spec
 ·rename_i hex
  rw [dif_neg hex] at h
  exact absurd h (by decide)
theorem btake_two (b : List Int) : ((btakeR b).2 = 0 ∨ (btakeR b).2 = 90 ∧ (btakeR b).1 = []) := by
 unfold btakeR
 split
 ·exact .inl rfl
 ·exact .inr ⟨rfl, rfl⟩
theorem btake_open {b : List Int} (h : ∀ x r, b ≠ sealL x ++ r) : btakeR b = ([], 90) := btake_no fun l _ hp => h (bodyC l) [] (by rw [List.append_nil]; exact (bput_right hp).2)
theorem btake_over {x r : List Int} (h : r ≠ []) : btakeR (sealL x ++ r) = ([], 90) := btake_no fun l _ hp => h (seal_inj (y := bodyC l) (s := []) (by rw [List.append_nil]; exact (bput_right hp).2)).2
theorem btake_body {x : List Int} (h : ∀ l, fitL l → rightC l = true → bodyC l ≠ x) : btakeR (sealL x) = ([], 90) := btake_no fun l hf hp => by
 obtain ⟨hr, he⟩ := bput_right hp
 exact h l hf hr (seal_inj (r := []) (s := []) (by rw [List.append_nil, List.append_nil]; exact he.symm)).1
theorem body_none {x : List Int} (h : ∀ n r, n < 2 ^ 64 → x ≠ varint n ++ r) (l : List S109) (hr : rightC l = true) : bodyC l ≠ x := fun he => h l.length (l.flatMap chB) (by have := (rightC_all hr).2.2; omega) (by rw [← he]; rfl)
theorem body_many {n : Nat} {r : List Int} (h : 200 < n) (l : List S109) (hr : rightC l = true) : bodyC l ≠ varint n ++ r := fun he => by
 have h1 := (varint_inj _ _ _ _ he).1
 have := (rightC_all hr).2.2
 omega
theorem body_stop {n : Nat} {r : List Int} {k : List S109} (hk : ∀ c ∈ k, EOk c) (hn : k.length < n) (h : ∀ c r', EOk c → r ≠ chB c ++ r') (l : List S109) (hf : fitL l) (hr : rightC l = true) : bodyC l ≠ varint n ++ (k.flatMap chB ++ r) := fun he => by
 obtain ⟨h1, h2⟩ := varint_inj _ _ _ _ he
 have hl := right_eok hr hf
 have hkl : k.length < l.length := by omega
 have hs : l = l.take k.length ++ l[k.length] :: l.drop (k.length + 1) := by rw [List.getElem_cons_drop, List.take_append_drop]
 have h3 : (l.take k.length).flatMap chB ++ (chB l[k.length] ++ (l.drop (k.length + 1)).flatMap chB) = k.flatMap chB ++ r := by
  rw [← h2]
  conv => rhs; rw [hs]
  rw [List.flatMap_append, List.flatMap_cons]
 obtain ⟨_, h4⟩ := flat_inj _ _ _ _ (by rw [List.length_take]; omega) (fun c hc => hl c (List.mem_of_mem_take hc)) hk h3
 exact h _ _ (hl _ (List.getElem_mem hkl)) h4.symm
theorem body_end {n : Nat} {r : List Int} {k : List S109} (hk : ∀ c ∈ k, EOk c) (hn : k.length = n) (l : List S109) (hf : fitL l) (hr : rightC l = true) (he : bodyC l = varint n ++ (k.flatMap chB ++ r)) : l = k ∧ r = [] := by
 obtain ⟨h1, h2⟩ := varint_inj _ _ _ _ he
 obtain ⟨h3, h4⟩ := flat_inj l k [] r (by omega) (right_eok hr hf) hk (by rw [List.append_nil]; exact h2)
 exact ⟨h3, h4.symm⟩
theorem next_num {r : List Int} (h : ∀ m s, m < 2 ^ 64 → r ≠ varint m ++ s) : ∀ c r', EOk c → r ≠ chB c ++ r' := fun c r' hc he => h _ _ (by have := hc.id1; omega) (he.trans (chB_app c r'))
theorem next_big {m : Nat} {r : List Int} (h : 4096 ≤ m) : ∀ c r', EOk c → varint m ++ r ≠ chB c ++ r' := fun c r' hc he => by
 rw [chB_app] at he
 have h1 := (varint_inj _ _ _ _ he).1
 have := hc.id1
 omega
theorem putB_len64 {c : S109} (h : EOk c) : (putB c.f1).length < 2 ^ 64 := by
 have := putB_len (putR_B h.put).2.2
 omega
theorem next_text {m : Nat} {r : List Int} (h : ∀ k s, k < 2 ^ 64 → r = varint k ++ s → s.length < k) : ∀ c r', EOk c → varint m ++ r ≠ chB c ++ r' := fun c r' hc he => by
 rw [chB_app] at he
 have h2 := h _ _ (putB_len64 hc) (varint_inj _ _ _ _ he).2
 rw [List.length_append] at h2
 omega
theorem next_bad {m k : Nat} {s : List Int} (h : (takeR (s.take k)).2 ≠ 0) : ∀ c r', EOk c → varint m ++ (varint k ++ s) ≠ chB c ++ r' := fun c r' hc he => by
 rw [chB_app] at he
 obtain ⟨rfl, h3⟩ := varint_inj _ _ _ _ (varint_inj _ _ _ _ he).2
 rw [h3, List.take_left, take_put hc.fit hc.put] at h
 exact h rfl
theorem next_good {m k : Nat} {s : List Int} {ps : List S52} (hm : m < 4096) (hk : k ≤ s.length) (h : takeR (s.take k) = (ps, 0)) : EOk ⟨(m : Int), ps⟩ ∧ varint m ++ (varint k ++ s) = chB ⟨(m : Int), ps⟩ ++ s.drop k := by
 have h1 := take_ok (b := s.take k) (by rw [h])
 rw [h] at h1
 obtain ⟨h2, h3, h4⟩ := putR_B h1.2
 refine ⟨⟨by simp, by simp; omega, h1.1, h2⟩, ?_⟩
 rw [chB_app]
 simp only [Int.toNat_natCast]
 rw [← h3, List.take_append_drop, List.length_take, Nat.min_eq_left hk]
theorem btake_stop {n : Nat} {r x : List Int} {k : List S109} (hx : x = varint n ++ (k.flatMap chB ++ r)) (hk : ∀ c ∈ k, EOk c) (hn : k.length < n) (h : ∀ c r', EOk c → r ≠ chB c ++ r') : btakeR (sealL x) = ([], 90) :=
 btake_body fun l hf hr => hx ▸ body_stop hk hn h l hf hr
theorem btake_end {n : Nat} {r x : List Int} {k : List S109} (hx : x = varint n ++ (k.flatMap chB ++ r)) (hk : ∀ c ∈ k, EOk c) (hn : k.length = n) : btakeR (sealL x) = if r = [] ∧ rightC k = true then (k, 0) else ([], 90) := by
 split
 ·rename_i hc
  obtain ⟨rfl, hr⟩ := hc
  refine btake_put (fun c hc => (hk c hc).fit) ?_
  rw [bput_of hr, hx, ← hn, List.append_nil]
  rfl
 ·rename_i hc
  refine btake_body fun l hf hr he => hc ?_
  obtain ⟨h1, h2⟩ := body_end hk hn l hf hr (he.trans hx)
  exact ⟨h2, h1 ▸ hr⟩
theorem eok_len {c : S109} (h : EOk c) : c.f1.length < 1000000000 := by have := (putR_B h.put).2.2; omega
end Go.Proofs.Ythkpnnbjcendcaa.Pure
end
section
open Go.RowKit Go.Proofs.Ythkpnnbjcendcaa.X Go.Proofs.Ythkpnnbjcendcaa.Pl Go.Proofs.Ythkpnnbjcendcaa.Sp Go.Proofs.Ythkpnnbjcendcaa.Pure Go.Proofs.YthkpnnbjcendcaaW.PrintWords Go.Proofs.YthkpnnbjcendcaaW.PrintLast Go.Proofs.YthkpnnbjcendcaaW.PrintMore
namespace Go.Proofs.Ythkpnnbjcendcaa.Sc
theorem bright_calls (A0 : Option Addr) (c0 : Nat) (l0 : List S109) (b : Bool) (w : World) (hb : rightC l0 = b) (hr0 : Kd.C k109 w A0 l0.length l0) (hc0 : l0.length ≤ c0) (hl : l0.length < 1000000000) (hE : ∀ c ∈ l0, c.f1.length < 1000000000) :
  Calls Try.prog 55 #[.slice A0 l0.length c0] w fun e w' => e = .returned (.bool b) ∧ Below w.heap.size w w' := by
 subst hb
 obtain ⟨K, hK⟩ := bright_ev l0 hl hE
 exact block_Right.calls K A0 c0 l0 _ w hr0 hc0 (hK K (Nat.le_refl _))
end Go.Proofs.Ythkpnnbjcendcaa.Sc
end
