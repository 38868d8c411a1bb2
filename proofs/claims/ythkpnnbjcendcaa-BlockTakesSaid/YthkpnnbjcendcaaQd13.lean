/- What the law leans on, part 13: Nta, Rbp, Rtx. -/
import Derived.Test.YthkpnnbjcendcaaQd12
import Derived.Laws.AppendOwn
set_option linter.unusedVariables false
set_option linter.unusedSimpArgs false
section
open Go.RowKit Go.Proofs.Ythkpnnbjcendcaa.X Go.Proofs.Ythkpnnbjcendcaa.Pl Go.Proofs.Ythkpnnbjcendcaa.Sp Go.Proofs.Ythkpnnbjcendcaa.Pure Go.Proofs.YthkpnnbjcendcaaW.PrintWords Go.Proofs.YthkpnnbjcendcaaW.PrintLast Go.Proofs.YthkpnnbjcendcaaW.PrintMore
namespace Go.Proofs.Ythkpnnbjcendcaa.Sc
theorem bytes_C (W : World) (t : List Int) (s : ByteArray) (hs : s = strOfNums t) (hb : Byt t) (hl : t.length < 1000000) : s.size = t.length ∧ Kd.C (Kd.int .u8) (Lib.bytesWorld W 5 s) (some ⟨W.heap.size, 0, none⟩) t.length t := by
 subst hs
 have h1 : (strOfNums t).size = t.length := by rw [← bytesOf_length, bytesOf_str hb]
 have h2 := bytes_reads W 5 (strOfNums t) (by omega)
 rw [bytesOf_str hb, h1] at h2
 exact ⟨h1, Kd.C_of_reads (enc := Value.int .u8) (d := (0 : Int)) (h1 := fun _ => rfl) h2⟩
theorem onew_n (A0 : Option Addr) (c0 n : Nat) (b : List Int) (w : World) (hn : b.length = n) (hr0 : Kd.C (Kd.int .u8) w A0 b.length b) (hc0 : n ≤ c0) (hl : n < 1000000) :
  Calls Try.prog 73 #[.slice A0 n c0] w fun e w' => ∃ g F A c, e = .returned (.pointer (some ⟨g, 0, none⟩)) ∧ Sep w.heap.size w' [otR g (.slice A b.length c) false, row F (Kd.int .u8) 5 w.heap.size (.slice A b.length c) b] ∧ Below w.heap.size w w' := by
 subst hn
 exact onew_calls A0 c0 b w hr0 hc0 hl
theorem rowR {α : Type} {d : Kd α} {e b1 b2 : Nat} {v : Value} {xs : List α} {w : World} {F : Nat → Prop} {rs : List Res} (h : Sep b1 w (row F d e b2 v xs :: rs)) : d.R e w b2 F v xs := h.now
def TakeN (l : List S109) (z : Int) (w : World) (e : Ending) (w' : World) : Prop := ∃ v, e = .returned (.tuple #[v, .int .i64 z]) ∧ Kd.N k109 109 w' w.heap.size (fun k => w.heap.size ≤ k) v l ∧ Below w.heap.size w w'
set_option maxHeartbeats 16000000 in
set_option maxRecDepth 100000 in
theorem btake_bad (A0 : Option Addr) (c0 : Nat) (b : List Int) (w : World) (hr0 : Kd.C (Kd.int .u8) w A0 b.length b) (hc0 : b.length ≤ c0) (hby : Byt b) (hl : b.length < 1000000)
  (hno : (∀ x r, b ≠ sealL x ++ r) ∨ (∃ x r, b = sealL x ++ r ∧ r ≠ []) ∨ (∃ n s, n < 2 ^ 64 ∧ 200 < n ∧ b = sealL (varint n ++ s)) ∨ (∃ x, b = sealL x ∧ ∀ m r, m < 2 ^ 64 → x ≠ varint m ++ r)) :
  Calls Try.prog 59 #[.slice A0 b.length c0] w fun e w' => TakeN [] 90 w e w' := by
 have HB := Aside0.mk (Below.refl w.heap.size w)
 have HS := Aside0.mk (Sep.nil w.heap.size w)
 have HR := Aside0.mk hr0
 have HC := Aside0.mk hc0
 have HBY := Aside0.mk hby
 have HL := Aside0.mk hl
 clear hr0 hc0 hby hl
 rcases hno with hno | ⟨x, r, hb, hr⟩ | ⟨n, s, hn, hn2, hb⟩ | ⟨x, hb, hno⟩
 ·have HNO := Aside0.mk hno
  clear hno
  go_enter Try.func59, Try.ntmps59
  go_wp2_with (first
   | (go_at_call 92; ((with_reducible refine (unseal_none A0 c0 b.length b _ rfl HNO.out (Kd.C_below HR.out HB.out) HC.out HBY.out HL.out).mono ?_); rintro e w1 ⟨rfl, hb⟩; have n0_ := Aside0.mk (below_step (by repeat (first | exact HB.out | apply below_alloc | apply pw_below_drewN | apply below_drew1)) hb); have n1_ := Aside0.mk (Sep.below (by repeat (first | exact HS.out | apply sep_alloc | apply sep_drewN | apply sep_drew)) hb); clear HB HS; have HB := n0_; have HS := n1_; clear n0_ n1_ hb)))
  go_ret2
  exact ⟨_, rfl, Kd.N_nil _ _ _ _ _, HB.out⟩
 ·have HBX := Aside0.mk hb
  obtain ⟨nr, hnr⟩ : ∃ n, n = r.length := ⟨_, rfl⟩
  have hpos : 0 < nr := by rw [hnr]; exact List.length_pos_iff.2 hr
  have HNR := Aside0.mk hnr
  have c1b : decide ((0 : Int) < (nr : Int)) = true := decide_eq_true (by omega)
  have c1n : decide (0 < nr) = true := decide_eq_true hpos
  clear hb hr hnr hpos
  go_enter Try.func59, Try.ntmps59
  go_wp2_with (first
   | (go_at_call 92; ((with_reducible refine (unseal_made A0 c0 b.length b x r _ rfl HBX.out (Kd.C_below HR.out HB.out) HC.out HBY.out HL.out).mono ?_); rintro e w1 ⟨v1, A2, c2, rfl, ho, hb⟩; rw [← HNR.out]; obtain ⟨A1, c1, e_⟩ := Kd.R_slice ho; subst e_; obtain ⟨F1, hs_⟩ := Sep.newrow (by repeat (first | exact HS.out | apply sep_alloc | apply sep_drewN | apply sep_drew)) hb (below_size (by repeat (first | exact HB.out | apply below_alloc | apply pw_below_drewN | apply below_drew1))) ho; have n0_ := Aside0.mk (below_step (by repeat (first | exact HB.out | apply below_alloc | apply pw_below_drewN | apply below_drew1)) hb); clear HB HS hb ho; have HB := n0_; have HS := Aside0.mk hs_; clear n0_ hs_)))
  go_ret2
  exact ⟨_, rfl, Kd.N_nil _ _ _ _ _, HB.out⟩
 ·obtain ⟨x, hx⟩ : ∃ x, x = varint n ++ s := ⟨_, rfl⟩
  rw [← hx] at hb
  have HX := Aside0.mk hx
  have HBX := Aside0.mk (show b = sealL x ++ [] by rw [List.append_nil]; exact hb)
  have HN64 := Aside0.mk hn
  have HXB := Aside0.mk (show Byt x from fun y hy => HBY.out y (by rw [hb]; unfold sealL; exact List.mem_append_left _ (List.mem_append_right _ hy)))
  have HXL := Aside0.mk (show x.length < 1000000 by
   have := HL.out
   rw [hb] at this
   unfold sealL at this
   simp only [List.length_append] at this
   omega)
  have c1b : decide ((200 : Int) < (n : Int)) = true := decide_eq_true (by omega)
  have c1n : decide (200 < n) = true := decide_eq_true hn2
  clear hb hn hn2 hx
  go_enter Try.func59, Try.ntmps59
  go_wp2_with (first
   | (go_at_call 92; ((with_reducible refine (unseal_made A0 c0 b.length b x [] _ rfl HBX.out (Kd.C_below HR.out HB.out) HC.out HBY.out HL.out).mono ?_); rintro e w1 ⟨v1, A2, c2, rfl, ho, hb⟩; obtain ⟨A1, c1, e_⟩ := Kd.R_slice ho; subst e_; obtain ⟨F1, hs_⟩ := Sep.newrow (by repeat (first | exact HS.out | apply sep_alloc | apply sep_drewN | apply sep_drew)) hb (below_size (by repeat (first | exact HB.out | apply below_alloc | apply pw_below_drewN | apply below_drew1))) ho; have n0_ := Aside0.mk (below_step (by repeat (first | exact HB.out | apply below_alloc | apply pw_below_drewN | apply below_drew1)) hb); clear HB HS hb ho; have HB := n0_; have HS := Aside0.mk hs_; clear n0_ hs_))
   | (go_at_call 73; ((with_reducible refine (onew_n A1 c1 x.length x _ rfl (Kd.R_reads' (Sep.R HS.out)).2.2 (Kd.R_reads' (Sep.R HS.out)).2.1 HXL.out).mono ?_); rintro e w2 ⟨g, F3, A3, c3, rfl, hs_, hb⟩; have n1_ := Aside0.mk (Sep.join (by repeat (first | exact HS.out | apply sep_alloc | apply sep_drewN | apply sep_drew)) hb (below_size (by repeat (first | exact HB.out | apply below_alloc | apply pw_below_drewN | apply below_drew1))) hs_); have n0_ := Aside0.mk (below_step (by repeat (first | exact HB.out | apply below_alloc | apply pw_below_drewN | apply below_drew1)) hb); clear HB HS hs_ hb; have HB := n0_; have HS := n1_; clear n0_ n1_))
   | (go_at_call 74; ((with_reducible refine (num_yes n s HN64.out g A3 c3 x HX.out false w _ HB.out HS.out.own (Kd.R_reads' (rowR HS.out.drop)).2.2 (Kd.R_reads' (rowR HS.out.drop)).2.1 HXB.out HXL.out).mono ?_); rintro e w3 ⟨A4, c4, rfl, hlc, hcd, ht⟩; clear hlc hcd; obtain ⟨F_, hs_⟩ := Turned.sep ht (HS.out) rfl; have n0_ := Aside0.mk (Turned.below ht); clear HB HS ht; have HB := n0_; have HS := Aside0.mk hs_; clear n0_ hs_)))
  go_ret2
  exact ⟨_, rfl, Kd.N_nil _ _ _ _ _, HB.out⟩
 ·have HNO := Aside0.mk hno
  have HBX := Aside0.mk (show b = sealL x ++ [] by rw [List.append_nil]; exact hb)
  have HXB := Aside0.mk (show Byt x from fun y hy => HBY.out y (by rw [hb]; unfold sealL; exact List.mem_append_left _ (List.mem_append_right _ hy)))
  have HXL := Aside0.mk (show x.length < 1000000 by
   have := HL.out
   rw [hb] at this
   unfold sealL at this
   simp only [List.length_append] at this
   omega)
  clear hb hno
  go_enter Try.func59, Try.ntmps59
  go_wp2_with (first
   | (go_at_call 92; ((with_reducible refine (unseal_made A0 c0 b.length b x [] _ rfl HBX.out (Kd.C_below HR.out HB.out) HC.out HBY.out HL.out).mono ?_); rintro e w1 ⟨v1, A2, c2, rfl, ho, hb⟩; obtain ⟨A1, c1, e_⟩ := Kd.R_slice ho; subst e_; obtain ⟨F1, hs_⟩ := Sep.newrow (by repeat (first | exact HS.out | apply sep_alloc | apply sep_drewN | apply sep_drew)) hb (below_size (by repeat (first | exact HB.out | apply below_alloc | apply pw_below_drewN | apply below_drew1))) ho; have n0_ := Aside0.mk (below_step (by repeat (first | exact HB.out | apply below_alloc | apply pw_below_drewN | apply below_drew1)) hb); clear HB HS hb ho; have HB := n0_; have HS := Aside0.mk hs_; clear n0_ hs_))
   | (go_at_call 73; ((with_reducible refine (onew_n A1 c1 x.length x _ rfl (Kd.R_reads' (Sep.R HS.out)).2.2 (Kd.R_reads' (Sep.R HS.out)).2.1 HXL.out).mono ?_); rintro e w2 ⟨g, F3, A3, c3, rfl, hs_, hb⟩; have n1_ := Aside0.mk (Sep.join (by repeat (first | exact HS.out | apply sep_alloc | apply sep_drewN | apply sep_drew)) hb (below_size (by repeat (first | exact HB.out | apply below_alloc | apply pw_below_drewN | apply below_drew1))) hs_); have n0_ := Aside0.mk (below_step (by repeat (first | exact HB.out | apply below_alloc | apply pw_below_drewN | apply below_drew1)) hb); clear HB HS hs_ hb; have HB := n0_; have HS := n1_; clear n0_ n1_))
   | (go_at_call 74; ((with_reducible refine (num_no g A3 c3 x HNO.out false w _ HB.out HS.out.own (Kd.R_reads' (rowR HS.out.drop)).2.2 (Kd.R_reads' (rowR HS.out.drop)).2.1 HXB.out HXL.out).mono ?_); rintro e w3 ⟨rfl, ht⟩; obtain ⟨F_, hs_⟩ := Turned.sep ht (HS.out) rfl; have n0_ := Aside0.mk (Turned.below ht); clear HB HS ht; have HB := n0_; have HS := Aside0.mk hs_; clear n0_ hs_)))
  go_loopg [9, 10, 11, 12, 33] 0 (fun kq v9 v10 v11 v12 v33 w' => v33 = .int .u64 0 ∧ Aside0 (Sep w.heap.size w' [otR g (.slice none 0 0) true]) ∧ Aside0 (Below w.heap.size w w'))
  case atStart => exact ⟨rfl, ⟨HS.out.own, (fun q hq => by cases hq), trivial⟩, HB⟩
  case round =>
   clear HS HB
   obtain ⟨rfl, HS, HB⟩ := hrel
   go_wp2_with (first
    | (go_at_call 76; ((with_reducible refine (end_named w.heap.size g none 0 0 true 6 _ (by simp) HS.out.own).mono ?_); rintro e w4 ⟨rfl, hb⟩; have n0_ := Aside0.mk (below_step (by repeat (first | exact HB.out | apply below_alloc | apply pw_below_drewN | apply below_drew1)) hb); have n1_ := Aside0.mk (Sep.below (by repeat (first | exact HS.out | apply sep_alloc | apply sep_drewN | apply sep_drew)) hb); clear HB HS; have HB := n0_; have HS := n1_; clear n0_ n1_ hb)))
   go_ret2
   exact ⟨_, rfl, Kd.N_nil _ _ _ _ _, HB.out⟩
theorem byt_nil : Byt [] := fun y hy => by cases hy
theorem pts_FK {base c : Nat} {w : World} {G : Nat → Prop} {A : Option Addr} {ps : List S52} (h : Own base w (ptsR G A ps.length ps)) (m : Int) (hc : ps.length ≤ c) : Kd.FK k109 w G ⟨m, ps⟩ [.int .i64 m, .slice A ps.length c] :=
 k109_mkF w G ⟨m, ps⟩ hc (fun W2 hW => h.tell W2 (fun k hk => hW k hk (h.hi k hk)))
theorem row_stay {base g : Nat} {w w2 : World} {F3 : Nat → Prop} {b1 : Nat} {A : Option Addr} {n c : Nat} {x : List Int} {v : Value} {bad : Bool} {rs : List Res} (h : Sep base w (otR g v bad :: row F3 (Kd.int .u8) 5 b1 (.slice A n c) x :: rs)) (hs : Stay w w2 (fun k => k = g)) : Kd.C (Kd.int .u8) w2 A x.length x :=
 (Kd.R_reads' (show Kd.R (Kd.int .u8) 5 w2 b1 F3 (.slice A n c) x from (h.drop.own.kept hs (fun k hk he => h.apart _ List.mem_cons_self g rfl (he ▸ hk))).now)).2.2
set_option maxHeartbeats 32000000 in
set_option maxRecDepth 100000 in
theorem btake_main (A0 : Option Addr) (c0 : Nat) (b : List Int) (w : World) (hr0 : Kd.C (Kd.int .u8) w A0 b.length b) (hc0 : b.length ≤ c0) (hby : Byt b) (hl : b.length < 1000000)
  (n : Nat) (r0 : List Int) (hn : n ≤ 200) (hb : b = sealL (varint n ++ r0)) (l : List S109) (z : Int) (hlz : btakeR b = (l, z)) :
  Calls Try.prog 59 #[.slice A0 b.length c0] w fun e w' => TakeN l z w e w' := by
 have HB := Aside0.mk (Below.refl w.heap.size w)
 have HS := Aside0.mk (Sep.nil w.heap.size w)
 have HR := Aside0.mk hr0
 have HC := Aside0.mk hc0
 have HBY := Aside0.mk hby
 have HL := Aside0.mk hl
 have HLZ := Aside0.mk hlz
 obtain ⟨x, hx⟩ : ∃ x, x = varint n ++ r0 := ⟨_, rfl⟩
 rw [← hx] at hb
 have HX := Aside0.mk hx
 have HBS := Aside0.mk hb
 have HBX := Aside0.mk (show b = sealL x ++ [] by rw [List.append_nil]; exact hb)
 have HN64 := Aside0.mk (show n < 2 ^ 64 by omega)
 have HN := Aside0.mk hn
 have HXB := Aside0.mk (show Byt x from fun y hy => HBY.out y (by rw [hb]; unfold sealL; exact List.mem_append_left _ (List.mem_append_right _ hy)))
 have HXL := Aside0.mk (show x.length < 1000000 by
  have := HL.out
  rw [hb] at this
  unfold sealL at this
  simp only [List.length_append] at this
  omega)
 have c1b : decide ((200 : Int) < (n : Int)) = false := decide_eq_false (by omega)
 have c1n : decide (200 < n) = false := decide_eq_false (by omega)
 clear hb hn hx hlz hl hby hc0 hr0
 go_enter Try.func59, Try.ntmps59
 go_wp2_with (first
  | (go_at_call 92; ((with_reducible refine (unseal_made A0 c0 b.length b x [] _ rfl HBX.out (Kd.C_below HR.out HB.out) HC.out HBY.out HL.out).mono ?_); rintro e w1 ⟨v1, A2, c2, rfl, ho, hb⟩; obtain ⟨A1, c1, e_⟩ := Kd.R_slice ho; subst e_; obtain ⟨F1, hs_⟩ := Sep.newrow (by repeat (first | exact HS.out | apply sep_alloc | apply sep_drewN | apply sep_drew)) hb (below_size (by repeat (first | exact HB.out | apply below_alloc | apply pw_below_drewN | apply below_drew1))) ho; have n0_ := Aside0.mk (below_step (by repeat (first | exact HB.out | apply below_alloc | apply pw_below_drewN | apply below_drew1)) hb); clear HB HS hb ho; have HB := n0_; have HS := Aside0.mk hs_; clear n0_ hs_))
  | (go_at_call 73; ((with_reducible refine (onew_n A1 c1 x.length x _ rfl (Kd.R_reads' (Sep.R HS.out)).2.2 (Kd.R_reads' (Sep.R HS.out)).2.1 HXL.out).mono ?_); rintro e w2 ⟨g, F3, A3, c3, rfl, hs_, hb⟩; have n1_ := Aside0.mk (Sep.join (by repeat (first | exact HS.out | apply sep_alloc | apply sep_drewN | apply sep_drew)) hb (below_size (by repeat (first | exact HB.out | apply below_alloc | apply pw_below_drewN | apply below_drew1))) hs_); have n0_ := Aside0.mk (below_step (by repeat (first | exact HB.out | apply below_alloc | apply pw_below_drewN | apply below_drew1)) hb); clear HB HS hs_ hb; have HB := n0_; have HS := n1_; clear n0_ n1_))
  | (go_at_call 74; ((with_reducible refine (num_yes n r0 HN64.out g A3 c3 x HX.out false w _ HB.out HS.out.own (Kd.R_reads' (rowR HS.out.drop)).2.2 (Kd.R_reads' (rowR HS.out.drop)).2.1 HXB.out HXL.out).mono ?_); rintro e w3 ⟨A4, c4, rfl, hlc, hcd, ht⟩; have HLC := Aside0.mk hlc; have HCD := Aside0.mk hcd; clear hlc hcd; obtain ⟨F_, hs_⟩ := Turned.sep ht (HS.out) rfl; have n0_ := Aside0.mk (Turned.below ht); clear HB HS ht; have HB := n0_; have HS := Aside0.mk hs_; clear n0_ hs_)))
 have n0_ := HS.out.drop3
 clear HS
 have HS := Aside0.mk (n0_.nilN k109 109)
 clear n0_
 go_loopg [9, 10, 11, 12, 33] n (fun kq v9 v10 v11 v12 v33 w' => ∃ (i : Nat) (O : List S109) (F : Nat → Prop) (A' : Option Addr) (c' : Nat) (r : List Int), v33 = .int .u64 (i : Int) ∧
  Aside0 (kq + i = n ∧ O.length = i ∧ x = varint n ++ (O.flatMap chB ++ r) ∧ (∀ c ∈ O, EOk c) ∧ r.length ≤ c' ∧ (∀ w2, Kd.C (Kd.int .u8) w2 A3 x.length x → Kd.C (Kd.int .u8) w2 A' r.length r)) ∧
  Aside0 (Sep w.heap.size w' [rowN F k109 109 w.heap.size v9 O, otR g (.slice A' r.length c') false, row F3 (Kd.int .u8) 5 w1.heap.size (.slice A3 x.length c3) x]) ∧ Aside0 (Below w.heap.size w w'))
 case atStart => exact ⟨0, [], _, A4, c4, r0, rfl, ⟨by omega, rfl, by rw [HX.out]; simp, by simp, HLC.out, HCD.out⟩, HS, HB⟩
 case round =>
  clear HS HB HLC HCD
  obtain ⟨i, O, F, A', c', r, rfl, HI, HS, HB⟩ := hrel
  obtain ⟨A9, c9, e9, hl9, _⟩ := Kd.N_reads HS.out.N
  subst e9
  have HL9 := Aside0.mk hl9
  clear hl9
  by_cases hlt : i < n
  ·obtain ⟨k1, rfl⟩ : ∃ q, gk = q + 1 := ⟨gk - 1, by have := HI.out.1; omega⟩
   have d1b : decide ((i : Int) < (n : Int)) = true := decide_eq_true (by omega)
   have d1n : decide (i < n) = true := decide_eq_true hlt
   have hnx : IntKind.u64.wrap ((i : Int) + 1) = ((i + 1 : Nat) : Int) := by have := HN.out; rw [w_u64 (by omega) (by omega)]; simp
   have HXI := Aside0.mk hnx
   have HKN := Aside0.mk (show O.length < n by have := HI.out.2.1; omega)
   have HRB := Aside0.mk (show Byt r from byt_app (a := O.flatMap chB) (byt_app (a := varint n) (HI.out.2.2.1 ▸ HXB.out)))
   have HRL := Aside0.mk (show r.length < 1000000 by
    have := HXL.out
    rw [HI.out.2.2.1, List.length_append, List.length_append] at this
    omega)
   clear hlt hnx
   by_cases hex : ∃ (m : Nat) (r1 : List Int), m < 2 ^ 64 ∧ r = varint m ++ r1
   ·obtain ⟨m, r1, hm, hr1⟩ := hex
    have HM := Aside0.mk hm
    have HR1 := Aside0.mk hr1
    have HRB1 := Aside0.mk (show Byt r1 from byt_app (a := varint m) (hr1 ▸ HRB.out))
    have HRL1 := Aside0.mk (show r1.length < 1000000 by
     have := HRL.out
     rw [hr1, List.length_append] at this
     omega)
    by_cases hex2 : ∃ (k : Nat) (s : List Int), k < 2 ^ 64 ∧ r1 = varint k ++ s ∧ k ≤ s.length
    ·obtain ⟨k, s, hk, hs, hks⟩ := hex2
     have HK := Aside0.mk hk
     have HS1 := Aside0.mk hs
     have HKS := Aside0.mk hks
     obtain ⟨t, ht⟩ : ∃ t, t = s.take k := ⟨_, rfl⟩
     obtain ⟨u, hu⟩ : ∃ u, u = s.drop k := ⟨_, rfl⟩
     have HT := Aside0.mk ht
     have HU := Aside0.mk hu
     have HTB := Aside0.mk (show Byt t from by rw [ht]; exact fun y hy => byt_app (a := varint k) (hs ▸ HRB1.out) y (List.mem_of_mem_take hy))
     have HTLN := Aside0.mk (show t.length < 1000000 by
      have := HRL1.out
      rw [hs, List.length_append] at this
      rw [ht, List.length_take]
      omega)
     obtain ⟨⟨ps, z1⟩, hps⟩ : ∃ p, p = takeR t := ⟨_, rfl⟩
     have HTK := Aside0.mk hps.symm
     obtain ⟨sT, hsT⟩ : ∃ s, s = strOfNums t := ⟨_, rfl⟩
     have HSTX := Aside0.mk hsT
     have kb := fun W => print_bytes (P := Try.prog) 9 24 5 Try.underlying9 Try.underlying24 Try.underlying5 sT W
     have hz := take_two t
     rw [← hps] at hz
     clear hm hr1 hk hs hks ht hu hps hsT
     rcases hz with hz | ⟨hz, hz2⟩
     ·have hz : z1 = 0 := hz
      subst hz
      by_cases hbig : 4096 ≤ m
      ·have e1b : decide ((m : Int) < 4096) = false := decide_eq_false (by omega)
       have e1n : decide (m < 4096) = false := decide_eq_false (by omega)
       have e2b : decide ((4096 : Int) ≤ (m : Int)) = true := decide_eq_true (by omega)
       have e2n : decide (4096 ≤ m) = true := decide_eq_true (by omega)
       have hl := HLZ.out
       rw [HBS.out, btake_stop HI.out.2.2.1 HI.out.2.2.2.1 HKN.out (HR1.out ▸ next_big hbig)] at hl
       injection hl with h1 h2
       subst h1 h2
       clear hbig
       go_wp2_with (first
        | (go_at_call 74; ((with_reducible refine (num_yes m r1 HM.out g A' c' r HR1.out false w _ HB.out (Sep.own HS.out.p2) (HI.out.2.2.2.2.2 _ (Kd.R_reads' (rowR HS.out.drop.drop)).2.2) HI.out.2.2.2.2.1 HRB.out HRL.out).mono ?_); rintro e w4 ⟨A6, c6, rfl, hlc, hcd, ht⟩; have HLC := Aside0.mk hlc; have HCD := Aside0.mk hcd; clear hlc hcd; obtain ⟨F_, hs_⟩ := Turned.sep ht (HS.out.p2) rfl; have n0_ := Aside0.mk (Turned.below ht); clear HB HS ht; have HB := n0_; have HS := Aside0.mk hs_; clear n0_ hs_; have n_ := HS.out.p2; clear HS; have HS := Aside0.mk n_; clear n_))
        | (go_at_call 93; ((with_reducible refine (otx_yes k s t u HK.out g A6 c6 r1 HS1.out HKS.out HT.out HU.out false w _ HB.out (Sep.own HS.out.p2) (fun w2 h2 => HCD.out w2 (HI.out.2.2.2.2.2 w2 (row_stay HS.out.drop h2))) HLC.out HRB1.out HRL1.out).mono ?_); rintro e w5 ⟨A7, c7, rfl, hlc, hcd, ht⟩; rw [← HSTX.out]; have HLC7 := Aside0.mk hlc; have HCD7 := Aside0.mk hcd; clear hlc hcd; obtain ⟨F_, hs_⟩ := Turned.sep ht (HS.out.p2) rfl; have n0_ := Aside0.mk (Turned.below ht); clear HB HS ht; have HB := n0_; have HS := Aside0.mk hs_; clear n0_ hs_; have n_ := HS.out.p2; clear HS; have HS := Aside0.mk n_; clear n_))
        | (go_at_call 41; (have ht_ := bytes_C w5 t sT HSTX.out HTB.out HTLN.out); (rw [ht_.1]); (have n0_ := Aside0.mk (bytes_below HB.out HB.out.size 5 sT)); (have n1_ := Aside0.mk (Sep.below HS.out (bytes_below (Below.refl _ _) (Nat.le_refl _) 5 sT))); clear HB HS; (have HB := n0_); (have HS := n1_); clear n0_ n1_; (refine (stake_own _ _ t _ _ _ ht_.2 (grownCap_ge _ _ _ _) HTB.out HTLN.out HTK.out).mono ?_); (rintro e w7 ⟨A5, c5, rfl, _, hl5, ⟨G5, ho5⟩, hb⟩); (have n1_ := Aside0.mk (Sep.new HS.out hb (ho5.lower HB.out.size) ho5.lo)); (have n0_ := Aside0.mk (below_step HB.out hb)); clear HB HS hb ho5; have HB := n0_; have HS := n1_; clear n0_ n1_ ht_))
       go_ret2
       exact ⟨_, rfl, Kd.N_nil _ _ _ _ _, HB.out⟩
      ·have e1b : decide ((m : Int) < 4096) = true := decide_eq_true (by omega)
       have e1n : decide (m < 4096) = true := decide_eq_true (by omega)
       have e2b : decide ((4096 : Int) ≤ (m : Int)) = false := decide_eq_false (by omega)
       have e2n : decide (4096 ≤ m) = false := decide_eq_false (by omega)
       have hmw : wrap64 (m : Int) = (m : Int) := wid (by omega)
       have HAL := Aside0.mk (show (O.length + 1) * 32 ≤ 140737488355328 by have := HKN.out; have := HN.out; omega)
       have HG := Aside0.mk (next_good (m := m) (k := k) (s := s) (by omega) HKS.out (by rw [← HT.out]; exact HTK.out))
       clear hbig
       go_wp2_with (first
        | (go_at_call 74; ((with_reducible refine (num_yes m r1 HM.out g A' c' r HR1.out false w _ HB.out (Sep.own HS.out.p2) (HI.out.2.2.2.2.2 _ (Kd.R_reads' (rowR HS.out.drop.drop)).2.2) HI.out.2.2.2.2.1 HRB.out HRL.out).mono ?_); rintro e w4 ⟨A6, c6, rfl, hlc, hcd, ht⟩; have HLC := Aside0.mk hlc; have HCD := Aside0.mk hcd; clear hlc hcd; obtain ⟨F_, hs_⟩ := Turned.sep ht (HS.out.p2) rfl; have n0_ := Aside0.mk (Turned.below ht); clear HB HS ht; have HB := n0_; have HS := Aside0.mk hs_; clear n0_ hs_; have n_ := HS.out.p2; clear HS; have HS := Aside0.mk n_; clear n_))
        | (go_at_call 93; ((with_reducible refine (otx_yes k s t u HK.out g A6 c6 r1 HS1.out HKS.out HT.out HU.out false w _ HB.out (Sep.own HS.out.p2) (fun w2 h2 => HCD.out w2 (HI.out.2.2.2.2.2 w2 (row_stay HS.out.drop h2))) HLC.out HRB1.out HRL1.out).mono ?_); rintro e w5 ⟨A7, c7, rfl, hlc, hcd, ht⟩; rw [← HSTX.out]; have HLC7 := Aside0.mk hlc; have HCD7 := Aside0.mk hcd; clear hlc hcd; obtain ⟨F_, hs_⟩ := Turned.sep ht (HS.out.p2) rfl; have n0_ := Aside0.mk (Turned.below ht); clear HB HS ht; have HB := n0_; have HS := Aside0.mk hs_; clear n0_ hs_; have n_ := HS.out.p2; clear HS; have HS := Aside0.mk n_; clear n_))
        | (go_at_call 41; (have ht_ := bytes_C w5 t sT HSTX.out HTB.out HTLN.out); (rw [ht_.1]); (have n0_ := Aside0.mk (bytes_below HB.out HB.out.size 5 sT)); (have n1_ := Aside0.mk (Sep.below HS.out (bytes_below (Below.refl _ _) (Nat.le_refl _) 5 sT))); clear HB HS; (have HB := n0_); (have HS := n1_); clear n0_ n1_; (refine (stake_own _ _ t _ _ _ ht_.2 (grownCap_ge _ _ _ _) HTB.out HTLN.out HTK.out).mono ?_); (rintro e w7 ⟨A5, c5, rfl, _, hl5, ⟨G5, ho5⟩, hb⟩); (have n1_ := Aside0.mk (Sep.new HS.out hb (ho5.lower HB.out.size) ho5.lo)); (have n0_ := Aside0.mk (below_step HB.out hb)); clear HB HS hb ho5; have HB := n0_; have HS := n1_; clear n0_ n1_ ht_)
        | ((with_reducible refine gate_builtin (b := .append) (xs := #[.tmp 50, .tmp 55]) rfl ?_); (at_builtin); (have hsp_ := HS.out.p2); (have hfk_ := (pts_FK HS.out.own (m : Int) hl5)); (refine wp_appendN k109 (w0 := w) rfl (.tmp 50) (.tmp 55) 66 109 (.agg #[.int .i64 0, .slice none 0 0]) 32 rfl Try.underlying66 info109 rfl (by decide) (by decide) ((⟨(m : Int), ps⟩ : S109)) [.int .i64 (m : Int), .slice A5 ps.length c5] hsp_ rfl rfl hfk_ HB.out (by exact HAL.out) ?_); (intro v_ w_ F_ hs_ hb_); (obtain ⟨O1, hy_⟩ : ∃ y_, y_ = O ++ [(⟨(m : Int), ps⟩ : S109)] := ⟨_, rfl⟩; rw [← hy_] at hs_; have HO1 := Aside0.mk hy_; clear hy_ HB HS; have HB := Aside0.mk hb_; have HS := Aside0.mk hs_; clear hs_ hb_ hsp_ hfk_); (skip)))
       go_roundg k1
       case measure => omega
       case rel => exact ⟨i + 1, O1, F_, A7, c7, u, (by first | rfl | rw [HXI.out]), ⟨by have := HI.out.1; omega, by rw [HO1.out, List.length_append, HI.out.2.1]; rfl, (by
         rw [HO1.out, List.flatMap_append, List.flatMap_cons, List.flatMap_nil, List.append_nil, List.append_assoc, HU.out, ← HG.out.2, ← HS1.out, ← HR1.out]
         exact HI.out.2.2.1), (by
         rw [HO1.out]
         intro c hc
         rcases List.mem_append.1 hc with hc | hc
         ·exact HI.out.2.2.2.1 c hc
         ·rw [List.mem_singleton.1 hc]; exact HG.out.1), HLC7.out, fun w2 h2 => HCD7.out w2 (HCD.out w2 (HI.out.2.2.2.2.2 w2 h2))⟩, HS, HB⟩
     ·have hz : z1 = 6 := hz
      have hz2 : ps = [] := hz2
      subst hz hz2
      have hl := HLZ.out
      rw [HBS.out, btake_stop HI.out.2.2.1 HI.out.2.2.2.1 HKN.out (by rw [HR1.out, HS1.out]; exact next_bad (by rw [← HT.out, HTK.out]; decide))] at hl
      injection hl with h1 h2
      subst h1 h2
      go_wp2_with (first
       | (go_at_call 74; ((with_reducible refine (num_yes m r1 HM.out g A' c' r HR1.out false w _ HB.out (Sep.own HS.out.p2) (HI.out.2.2.2.2.2 _ (Kd.R_reads' (rowR HS.out.drop.drop)).2.2) HI.out.2.2.2.2.1 HRB.out HRL.out).mono ?_); rintro e w4 ⟨A6, c6, rfl, hlc, hcd, ht⟩; have HLC := Aside0.mk hlc; have HCD := Aside0.mk hcd; clear hlc hcd; obtain ⟨F_, hs_⟩ := Turned.sep ht (HS.out.p2) rfl; have n0_ := Aside0.mk (Turned.below ht); clear HB HS ht; have HB := n0_; have HS := Aside0.mk hs_; clear n0_ hs_; have n_ := HS.out.p2; clear HS; have HS := Aside0.mk n_; clear n_))
       | (go_at_call 93; ((with_reducible refine (otx_yes k s t u HK.out g A6 c6 r1 HS1.out HKS.out HT.out HU.out false w _ HB.out (Sep.own HS.out.p2) (fun w2 h2 => HCD.out w2 (HI.out.2.2.2.2.2 w2 (row_stay HS.out.drop h2))) HLC.out HRB1.out HRL1.out).mono ?_); rintro e w5 ⟨A7, c7, rfl, hlc, hcd, ht⟩; rw [← HSTX.out]; have HLC7 := Aside0.mk hlc; have HCD7 := Aside0.mk hcd; clear hlc hcd; obtain ⟨F_, hs_⟩ := Turned.sep ht (HS.out.p2) rfl; have n0_ := Aside0.mk (Turned.below ht); clear HB HS ht; have HB := n0_; have HS := Aside0.mk hs_; clear n0_ hs_; have n_ := HS.out.p2; clear HS; have HS := Aside0.mk n_; clear n_))
       | (go_at_call 41; (have ht_ := bytes_C w5 t sT HSTX.out HTB.out HTLN.out); (rw [ht_.1]); (have n0_ := Aside0.mk (bytes_below HB.out HB.out.size 5 sT)); (have n1_ := Aside0.mk (Sep.below HS.out (bytes_below (Below.refl _ _) (Nat.le_refl _) 5 sT))); clear HB HS; (have HB := n0_); (have HS := n1_); clear n0_ n1_; (refine (stake_own _ _ t _ _ _ ht_.2 (grownCap_ge _ _ _ _) HTB.out HTLN.out HTK.out).mono ?_); (rintro e w7 ⟨A5, c5, rfl, _, hl5, ⟨G5, ho5⟩, hb⟩); (have n1_ := Aside0.mk (Sep.new HS.out hb (ho5.lower HB.out.size) ho5.lo)); (have n0_ := Aside0.mk (below_step HB.out hb)); clear HB HS hb ho5; have HB := n0_; have HS := n1_; clear n0_ n1_ ht_))
      go_ret2
      exact ⟨_, rfl, Kd.N_nil _ _ _ _ _, HB.out⟩
    ·have HNT := Aside0.mk (show ∀ (k : Nat) (s : List Int), k < 2 ^ 64 → r1 = varint k ++ s → s.length < k from fun k s h1 h2 => Nat.lt_of_not_le fun h3 => hex2 ⟨k, s, h1, h2, h3⟩)
     have hl := HLZ.out
     rw [HBS.out, btake_stop HI.out.2.2.1 HI.out.2.2.2.1 HKN.out (by rw [HR1.out]; exact next_text HNT.out)] at hl
     obtain ⟨t, ht⟩ : ∃ t, t = ([] : List Int) := ⟨_, rfl⟩
     have HT := Aside0.mk ht
     have HTB := Aside0.mk (show Byt t from by rw [ht]; exact fun y hy => by cases hy)
     have HTLN := Aside0.mk (show t.length < 1000000 by rw [ht]; decide)
     have HTK := Aside0.mk (show takeR t = ([], 6) by rw [ht]; exact take_none fun n r _ e => varint_ne n r e.symm)
     obtain ⟨sT, hsT⟩ : ∃ s, s = strOfNums t := ⟨_, rfl⟩
     have HSTX := Aside0.mk hsT
     have kb := fun W => print_bytes (P := Try.prog) 9 24 5 Try.underlying9 Try.underlying24 Try.underlying5 sT W
     injection hl with h1 h2
     subst h1 h2
     clear ht hsT
     clear hm hr1 hex2
     go_wp2_with (first
      | (go_at_call 74; ((with_reducible refine (num_yes m r1 HM.out g A' c' r HR1.out false w _ HB.out (Sep.own HS.out.p2) (HI.out.2.2.2.2.2 _ (Kd.R_reads' (rowR HS.out.drop.drop)).2.2) HI.out.2.2.2.2.1 HRB.out HRL.out).mono ?_); rintro e w4 ⟨A6, c6, rfl, hlc, hcd, ht⟩; have HLC := Aside0.mk hlc; have HCD := Aside0.mk hcd; clear hlc hcd; obtain ⟨F_, hs_⟩ := Turned.sep ht (HS.out.p2) rfl; have n0_ := Aside0.mk (Turned.below ht); clear HB HS ht; have HB := n0_; have HS := Aside0.mk hs_; clear n0_ hs_; have n_ := HS.out.p2; clear HS; have HS := Aside0.mk n_; clear n_))
      | (go_at_call 93; ((with_reducible refine (otx_no g A6 c6 r1 HNT.out false w _ HB.out (Sep.own HS.out.p2) (HCD.out _ (HI.out.2.2.2.2.2 _ (Kd.R_reads' (rowR HS.out.drop.drop)).2.2)) HLC.out HRB1.out HRL1.out).mono ?_); rintro e w5 ⟨rfl, ht⟩; rw [← HT.out, ← HSTX.out]; obtain ⟨F_, hs_⟩ := Turned.sep ht (HS.out.p2) rfl; have n0_ := Aside0.mk (Turned.below ht); clear HB HS ht; have HB := n0_; have HS := Aside0.mk hs_; clear n0_ hs_; have n_ := HS.out.p2; clear HS; have HS := Aside0.mk n_; clear n_))
      | (go_at_call 41; (have ht_ := bytes_C w5 t sT HSTX.out HTB.out HTLN.out); (rw [ht_.1]); (have n0_ := Aside0.mk (bytes_below HB.out HB.out.size 5 sT)); (have n1_ := Aside0.mk (Sep.below HS.out (bytes_below (Below.refl _ _) (Nat.le_refl _) 5 sT))); clear HB HS; (have HB := n0_); (have HS := n1_); clear n0_ n1_; (refine (stake_own _ _ t _ _ _ ht_.2 (grownCap_ge _ _ _ _) HTB.out HTLN.out HTK.out).mono ?_); (rintro e w7 ⟨A5, c5, rfl, _, hl5, ⟨G5, ho5⟩, hb⟩); (have n1_ := Aside0.mk (Sep.new HS.out hb (ho5.lower HB.out.size) ho5.lo)); (have n0_ := Aside0.mk (below_step HB.out hb)); clear HB HS hb ho5; have HB := n0_; have HS := n1_; clear n0_ n1_ ht_))
     go_ret2
     exact ⟨_, rfl, Kd.N_nil _ _ _ _ _, HB.out⟩
   ·have HNO := Aside0.mk (show ∀ m s, m < 2 ^ 64 → r ≠ varint m ++ s from fun m s h1 h2 => hex ⟨m, s, h1, h2⟩)
    have hl := HLZ.out
    rw [HBS.out, btake_stop HI.out.2.2.1 HI.out.2.2.2.1 HKN.out (next_num HNO.out)] at hl
    obtain ⟨t, ht⟩ : ∃ t, t = ([] : List Int) := ⟨_, rfl⟩
    have HT := Aside0.mk ht
    have HTB := Aside0.mk (show Byt t from by rw [ht]; exact fun y hy => by cases hy)
    have HTLN := Aside0.mk (show t.length < 1000000 by rw [ht]; decide)
    have HTK := Aside0.mk (show takeR t = ([], 6) by rw [ht]; exact take_none fun n r _ e => varint_ne n r e.symm)
    obtain ⟨sT, hsT⟩ : ∃ s, s = strOfNums t := ⟨_, rfl⟩
    have HSTX := Aside0.mk hsT
    have kb := fun W => print_bytes (P := Try.prog) 9 24 5 Try.underlying9 Try.underlying24 Try.underlying5 sT W
    injection hl with h1 h2
    subst h1 h2
    clear ht hsT
    clear hex
    go_wp2_with (first
     | (go_at_call 74; ((with_reducible refine (num_no g A' c' r HNO.out false w _ HB.out (Sep.own HS.out.p2) (HI.out.2.2.2.2.2 _ (Kd.R_reads' (rowR HS.out.drop.drop)).2.2) HI.out.2.2.2.2.1 HRB.out HRL.out).mono ?_); rintro e w4 ⟨rfl, ht⟩; obtain ⟨F_, hs_⟩ := Turned.sep ht (HS.out.p2) rfl; have n0_ := Aside0.mk (Turned.below ht); clear HB HS ht; have HB := n0_; have HS := Aside0.mk hs_; clear n0_ hs_; have n_ := HS.out.p2; clear HS; have HS := Aside0.mk n_; clear n_))
     | (go_at_call 93; ((with_reducible refine (otx_no g none 0 [] (fun m r _ e => absurd e.symm (varint_ne m r)) true w _ HB.out (Sep.own HS.out.p2) (Kd.C_nil _ _) (Nat.le_refl _) byt_nil (by decide)).mono ?_); rintro e w5 ⟨rfl, ht⟩; rw [← HT.out, ← HSTX.out]; obtain ⟨F_, hs_⟩ := Turned.sep ht (HS.out.p2) rfl; have n0_ := Aside0.mk (Turned.below ht); clear HB HS ht; have HB := n0_; have HS := Aside0.mk hs_; clear n0_ hs_; have n_ := HS.out.p2; clear HS; have HS := Aside0.mk n_; clear n_))
     | (go_at_call 41; (have ht_ := bytes_C w5 t sT HSTX.out HTB.out HTLN.out); (rw [ht_.1]); (have n0_ := Aside0.mk (bytes_below HB.out HB.out.size 5 sT)); (have n1_ := Aside0.mk (Sep.below HS.out (bytes_below (Below.refl _ _) (Nat.le_refl _) 5 sT))); clear HB HS; (have HB := n0_); (have HS := n1_); clear n0_ n1_; (refine (stake_own _ _ t _ _ _ ht_.2 (grownCap_ge _ _ _ _) HTB.out HTLN.out HTK.out).mono ?_); (rintro e w7 ⟨A5, c5, rfl, _, hl5, ⟨G5, ho5⟩, hb⟩); (have n1_ := Aside0.mk (Sep.new HS.out hb (ho5.lower HB.out.size) ho5.lo)); (have n0_ := Aside0.mk (below_step HB.out hb)); clear HB HS hb ho5; have HB := n0_; have HS := n1_; clear n0_ n1_ ht_))
    go_ret2
    exact ⟨_, rfl, Kd.N_nil _ _ _ _ _, HB.out⟩
  ·have d1b : decide ((i : Int) < (n : Int)) = false := decide_eq_false (by omega)
   have d1n : decide (i < n) = false := decide_eq_false hlt
   have hOn : O.length = n := by have := HI.out.1; have := HI.out.2.1; omega
   have hl := HLZ.out
   rw [HBS.out, btake_end HI.out.2.2.1 HI.out.2.2.2.1 hOn] at hl
   have HON := Aside0.mk (show O.length < 1000000000 by have := HN.out; omega)
   have HHL := Aside0.mk hl
   clear hl hlt hOn
   by_cases hr : r = []
   ·subst hr
    cases hrt : rightC O
    ·have HRT := Aside0.mk hrt
     have hl := HHL.out
     rw [if_neg (by rintro ⟨_, h⟩; rw [hrt] at h; exact absurd h (by decide))] at hl
     injection hl with h1 h2
     subst h1 h2
     clear hrt
     go_wp2_with (first
      | (go_at_call 76; ((with_reducible refine (end_named w.heap.size g A' 0 c' false 0 _ (by simp) HS.out.p2.own).mono ?_); rintro e w4 ⟨rfl, hb⟩; have n0_ := Aside0.mk (below_step (by repeat (first | exact HB.out | apply below_alloc | apply pw_below_drewN | apply below_drew1)) hb); have n1_ := Aside0.mk (Sep.below (by repeat (first | exact HS.out | apply sep_alloc | apply sep_drewN | apply sep_drew)) hb); clear HB HS; have HB := n0_; have HS := n1_; clear n0_ n1_ hb))
      | (go_at_call 55; ((with_reducible refine (bright_calls A9 c9 O false _ HRT.out (Kd.N_reads' HS.out.N).2.2 HL9.out HON.out (fun c hc => eok_len (HI.out.2.2.2.1 c hc))).mono ?_); rintro e w5 ⟨rfl, hb⟩; have n0_ := Aside0.mk (below_step (by repeat (first | exact HB.out | apply below_alloc | apply pw_below_drewN | apply below_drew1)) hb); have n1_ := Aside0.mk (Sep.below (by repeat (first | exact HS.out | apply sep_alloc | apply sep_drewN | apply sep_drew)) hb); clear HB HS; have HB := n0_; have HS := n1_; clear n0_ n1_ hb)))
     go_ret2
     exact ⟨_, rfl, Kd.N_nil _ _ _ _ _, HB.out⟩
    ·have HRT := Aside0.mk hrt
     have hl := HHL.out
     rw [if_pos ⟨rfl, hrt⟩] at hl
     injection hl with h1 h2
     subst h1 h2
     clear hrt
     go_wp2_with (first
      | (go_at_call 76; ((with_reducible refine (end_named w.heap.size g A' 0 c' false 0 _ (by simp) HS.out.p2.own).mono ?_); rintro e w4 ⟨rfl, hb⟩; have n0_ := Aside0.mk (below_step (by repeat (first | exact HB.out | apply below_alloc | apply pw_below_drewN | apply below_drew1)) hb); have n1_ := Aside0.mk (Sep.below (by repeat (first | exact HS.out | apply sep_alloc | apply sep_drewN | apply sep_drew)) hb); clear HB HS; have HB := n0_; have HS := n1_; clear n0_ n1_ hb))
      | (go_at_call 55; ((with_reducible refine (bright_calls A9 c9 O true _ HRT.out (Kd.N_reads' HS.out.N).2.2 HL9.out HON.out (fun c hc => eok_len (HI.out.2.2.2.1 c hc))).mono ?_); rintro e w5 ⟨rfl, hb⟩; have n0_ := Aside0.mk (below_step (by repeat (first | exact HB.out | apply below_alloc | apply pw_below_drewN | apply below_drew1)) hb); have n1_ := Aside0.mk (Sep.below (by repeat (first | exact HS.out | apply sep_alloc | apply sep_drewN | apply sep_drew)) hb); clear HB HS; have HB := n0_; have HS := n1_; clear n0_ n1_ hb)))
     go_ret2
     exact ⟨_, rfl, Kd.N_mono HS.out.N (fun k hk => HS.out.own.lo k hk), HB.out⟩
   ·obtain ⟨nr, hnr⟩ : ∃ q, q = r.length := ⟨_, rfl⟩
    have hpos : 0 < nr := by rw [hnr]; exact List.length_pos_iff.2 hr
    have HP := Aside0.mk hpos
    have hl := HHL.out
    rw [if_neg (by rintro ⟨h, _⟩; exact hr h)] at hl
    injection hl with h1 h2
    subst h1 h2
    have n_ := HS.out
    rw [← hnr] at n_
    clear HS
    have HS := Aside0.mk n_
    clear n_ hr hpos hnr
    go_wp2_with (first
     | (go_at_call 76; ((with_reducible refine (end_named w.heap.size g A' nr c' false 6 _ (by rw [if_pos (.inr HP.out)]) HS.out.p2.own).mono ?_); rintro e w4 ⟨rfl, hb⟩; have n0_ := Aside0.mk (below_step (by repeat (first | exact HB.out | apply below_alloc | apply pw_below_drewN | apply below_drew1)) hb); have n1_ := Aside0.mk (Sep.below (by repeat (first | exact HS.out | apply sep_alloc | apply sep_drewN | apply sep_drew)) hb); clear HB HS; have HB := n0_; have HS := n1_; clear n0_ n1_ hb)))
    go_ret2
    exact ⟨_, rfl, Kd.N_nil _ _ _ _ _, HB.out⟩
theorem btake_calls (A0 : Option Addr) (c0 : Nat) (b : List Int) (w : World) (hr0 : Kd.C (Kd.int .u8) w A0 b.length b) (hc0 : b.length ≤ c0) (hby : Byt b) (hl : b.length < 1000000) (l : List S109) (z : Int) (hlz : btakeR b = (l, z)) :
  Calls Try.prog 59 #[.slice A0 b.length c0] w fun e w' => TakeN l z w e w' := by
 have bad : ∀ h : btakeR b = ([], 90), l = [] ∧ z = 90 := fun h => by
  rw [hlz] at h
  injection h with h1 h2
  exact ⟨h1, h2⟩
 by_cases h1 : ∃ x r, b = sealL x ++ r
 ·obtain ⟨x, r, hb⟩ := h1
  by_cases hr : r = []
  ·subst hr
   rw [List.append_nil] at hb
   by_cases h2 : ∃ n r0, n < 2 ^ 64 ∧ x = varint n ++ r0
   ·obtain ⟨n, r0, hn, hx⟩ := h2
    by_cases h3 : n ≤ 200
    ·exact btake_main A0 c0 b w hr0 hc0 hby hl n r0 h3 (by rw [hb, hx]) l z hlz
    ·obtain ⟨rfl, rfl⟩ := bad (by rw [hb, hx]; exact btake_body fun l _ hr => body_many (by omega) l hr)
     exact btake_bad A0 c0 b w hr0 hc0 hby hl (.inr (.inr (.inl ⟨n, r0, hn, by omega, by rw [hb, hx]⟩)))
   ·have h3 : ∀ m r, m < 2 ^ 64 → x ≠ varint m ++ r := fun m r hm he => h2 ⟨m, r, hm, he⟩
    obtain ⟨rfl, rfl⟩ := bad (by rw [hb]; exact btake_body fun l _ hr => body_none h3 l hr)
    exact btake_bad A0 c0 b w hr0 hc0 hby hl (.inr (.inr (.inr ⟨x, hb, h3⟩)))
  ·obtain ⟨rfl, rfl⟩ := bad (by rw [hb]; exact btake_over hr)
   exact btake_bad A0 c0 b w hr0 hc0 hby hl (.inr (.inl ⟨x, r, hb, hr⟩))
 ·have h2 : ∀ x r, b ≠ sealL x ++ r := fun x r he => h1 ⟨x, r, he⟩
  obtain ⟨rfl, rfl⟩ := bad (btake_open h2)
  exact btake_bad A0 c0 b w hr0 hc0 hby hl (.inl h2)
end Go.Proofs.Ythkpnnbjcendcaa.Sc
namespace Go.Proofs.Ythkpnnbjcendcaa.Sc
theorem rright_n (A0 : Option Addr) (c0 : Nat) (l0 : List S109) (b : Bool) (w : World) (hb : rightC l0 = b) (hr0 : Kd.C k109 w A0 l0.length l0) (hl : l0.length < 1000000000) (hE : ∀ c ∈ l0, c.f1.length < 1000000000) :
  Calls Try.prog 56 #[.slice A0 l0.length c0] w fun e w' => e = .returned (.bool b) ∧ Below w.heap.size w w' := by
 subst hb
 exact rright9_calls A0 c0 l0 w hr0 hl hE
theorem rput1_n (A0 : Option Addr) (c0 m : Nat) (b : List Int) (n : Nat) (r : List Int) (w : World) (hm : b.length = m) (hr : b ++ varint n = r) (hr0 : Kd.C (Kd.int .u8) w A0 m b) (hc0 : m ≤ c0) (hl : m ≤ 100000000) (hn : n < 2 ^ 64) :
  Calls Try.prog 68 #[.slice A0 m c0, .int .u64 (n : Int)] w fun e w' => ∃ v, e = .returned v ∧ Kd.R (Kd.int .u8) 5 w' w.heap.size (fun _ => True) v r ∧ Below w.heap.size w w' := by
 subst hm hr
 exact ref1put_calls A0 c0 b n w hr0 hc0 hl hn
theorem rput4_n (A0 : Option Addr) (c0 n : Nat) (l0 : List S52) (O : List Int) (q : Int) (w : World) (hn : l0.length = n) (ho : (putR l0).1 = O) (hq : (putR l0).2 = q) (hr0 : Kd.C k52 w A0 l0.length l0) (hc0 : n ≤ c0) (hl : n < 4611686018427387904) :
  Calls Try.prog 31 #[.slice A0 n c0] w fun e w' => ∃ v, e = .returned (.tuple #[v, .int .i64 q]) ∧ Kd.R (Kd.int .u8) 5 w' w.heap.size (fun _ => True) v O ∧ Below w.heap.size w w' := by
 subst hn
 exact rput_named A0 c0 l0 O q w ho hq hr0 hc0 hl
theorem rtext_n (A0 : Option Addr) (c0 m : Nat) (b p : List Int) (s : ByteArray) (r : List Int) (w : World) (hm : b.length = m) (hs : s = strOfNums p) (hr : b ++ varint p.length ++ p = r) (hr0 : Kd.C (Kd.int .u8) w A0 m b) (hc0 : m ≤ c0) (hl : m ≤ 50000000) (hp : p.length ≤ 1000000) (hb : Byt p) :
  Calls Try.prog 89 #[.slice A0 m c0, .string s] w fun e w' => ∃ v, e = .returned v ∧ Kd.R (Kd.int .u8) 5 w' w.heap.size (fun _ => True) v r ∧ Below w.heap.size w w' := by
 subst hm hs hr
 obtain ⟨K, hK⟩ := rtext_ev hl hp hb
 exact marigraphref01_PutText.calls K A0 c0 b _ _ w hr0 hc0 (hK K (Nat.le_refl _))
theorem rseal_n (A0 : Option Addr) (c0 m : Nat) (b r : List Int) (w : World) (hm : b.length = m) (hr : sealL b = r) (hr0 : Kd.C (Kd.int .u8) w A0 m b) (hc0 : m ≤ c0) (hl : m ≤ 10000000) (hb : Byt b) :
  Calls Try.prog 90 #[.slice A0 m c0] w fun e w' => ∃ v, e = .returned v ∧ Kd.R (Kd.int .u8) 5 w' w.heap.size (fun _ => True) v r ∧ Below w.heap.size w w' := by
 subst hm hr
 obtain ⟨K, hK⟩ := rseal_ev hl hb
 exact marigraphref03_Put.calls K A0 c0 b _ w hr0 hc0 (hK K (Nat.le_refl _))
set_option maxHeartbeats 16000000 in
set_option maxRecDepth 100000 in
theorem rbput_calls (A0 : Option Addr) (c0 : Nat) (l0 : List S109) (O9 : List Int) (q9 : Int) (w : World) (hO : bputR l0 = (O9, q9)) (hr0 : Kd.C k109 w A0 l0.length l0) (hc0 : l0.length ≤ c0) (hl : l0.length < 1000000000) (hE : ∀ c ∈ l0, c.f1.length < 1000000000) :
  Calls Try.prog 54 #[.slice A0 l0.length c0] w fun e w' => ∃ v, e = .returned (.tuple #[v, .int .i64 q9]) ∧ Kd.R (Kd.int .u8) 5 w' w.heap.size (fun _ => True) v O9 ∧ Below w.heap.size w w' := by
 have HB := Aside0.mk (Below.refl w.heap.size w)
 have HS := Aside0.mk (Sep.nil w.heap.size w)
 have HR := Aside0.mk hr0
 have HC := Aside0.mk hc0
 have HL := Aside0.mk hl
 have HE := Aside0.mk hE
 cases hrt : rightC l0
 ·have HRT := Aside0.mk hrt
  have hE9 : bputR l0 = ([], 1) := by unfold bputR; rw [hrt]; rfl
  rw [hE9] at hO
  injection hO with h1 h2
  subst h1 h2
  clear hr0 hc0 hl hE hrt hE9
  go_enter Try.func54, Try.ntmps54
  go_wp2_with (first
   | (go_at_call 56; ((with_reducible refine (rright_n A0 c0 l0 false _ HRT.out (Kd.C_below HR.out HB.out) HL.out HE.out).mono ?_); rintro e w1 ⟨rfl, hb⟩; have n0_ := Aside0.mk (below_step (by repeat (first | exact HB.out | apply below_alloc | apply pw_below_drewN | apply below_drew1)) hb); have n1_ := Aside0.mk (Sep.below (by repeat (first | exact HS.out | apply sep_alloc | apply sep_drewN | apply sep_drew)) hb); clear HB HS; have HB := n0_; have HS := n1_; clear n0_ n1_ hb)))
  go_ret2
  exact ⟨_, rfl, Kd.R_nil _ _ _ _ _, HB.out⟩
 ·have HRT := Aside0.mk hrt
  have hE9 : bputR l0 = (sealL (bodyC l0), 0) := by unfold bputR; rw [hrt]; rfl
  rw [hE9] at hO
  injection hO with h1 h2
  obtain ⟨hok, hn1, hn2⟩ := rightC_all hrt
  have HOK := Aside0.mk hok
  have HN := Aside0.mk hn2
  have HO9 := Aside0.mk h1
  have hbl := bodyC_len hrt
  have HBL := Aside0.mk hbl
  have hcv : IntKind.u64.wrap (l0.length : Int) = (l0.length : Int) := w_u64 (by omega) (by omega)
  subst h2
  clear hr0 hc0 hl hE hrt hE9 h1 hok hn1 hbl
  go_enter Try.func54, Try.ntmps54
  go_wp2_with (first
   | (go_at_call 56; ((with_reducible refine (rright_n A0 c0 l0 true _ HRT.out (Kd.C_below HR.out HB.out) HL.out HE.out).mono ?_); rintro e w1 ⟨rfl, hb⟩; have n0_ := Aside0.mk (below_step (by repeat (first | exact HB.out | apply below_alloc | apply pw_below_drewN | apply below_drew1)) hb); have n1_ := Aside0.mk (Sep.below (by repeat (first | exact HS.out | apply sep_alloc | apply sep_drewN | apply sep_drew)) hb); clear HB HS; have HB := n0_; have HS := n1_; clear n0_ n1_ hb))
   | (go_at_call 68; ((with_reducible refine (rput1_n none 0 0 [] l0.length (varint l0.length) _ rfl rfl (Kd.C_nil _ _) (by decide) (by decide) (by have := HN.out; omega)).mono ?_); rintro e w2 ⟨v, rfl, ho, hb⟩; obtain ⟨A2, c2, e_⟩ := Kd.R_slice ho; subst e_; obtain ⟨F2, hs_⟩ := Sep.newrow (by repeat (first | exact HS.out | apply sep_alloc | apply sep_drewN | apply sep_drew)) hb (below_size (by repeat (first | exact HB.out | apply below_alloc | apply pw_below_drewN | apply below_drew1))) ho; have n0_ := Aside0.mk (below_step (by repeat (first | exact HB.out | apply below_alloc | apply pw_below_drewN | apply below_drew1)) hb); clear HB HS hb ho; have HB := n0_; have HS := Aside0.mk hs_; clear n0_ hs_)))
  go_loopg [4, 5, 6, 7] l0.length (fun kq v4 v18 _ _ w' => ∃ (i : Nat) (O : List Int) (F : Nat → Prop), v18 = .int .i64 (i : Int) ∧ Aside0 (kq + i = l0.length ∧ O = varint l0.length ++ (l0.take i).flatMap chB) ∧ Aside0 (Sep w.heap.size w' [row F (Kd.int .u8) 5 w.heap.size v4 O]) ∧ Aside0 (Below w.heap.size w w'))
  case atStart => exact ⟨0, varint l0.length, _, rfl, ⟨by omega, by simp⟩, HS, HB⟩
  case round =>
   clear HS HB
   obtain ⟨i, O, F, rfl, HI, HS, HB⟩ := hrel
   obtain ⟨Ao, co, eo⟩ := Kd.R_slice (Sep.R HS.out)
   by_cases hlt : i < l0.length
   ·subst eo
    obtain ⟨k1, rfl⟩ : ∃ q, gk = q + 1 := ⟨gk - 1, by have := HI.out.1; omega⟩
    have d1b : decide ((i : Int) < (l0.length : Int)) = true := decide_eq_true (by omega)
    have d1n : decide (i < l0.length) = true := decide_eq_true hlt
    have hnx : wrap64 ((i : Int) + 1) = ((i + 1 : Nat) : Int) := by have := HL.out; rw [w64 (by omega) (by omega)]; simp
    obtain ⟨ad, A1, c1, e1, hx0, hx1, hl1, hC1⟩ := at_T109 HR.out (i : Int) (by omega) (by omega)
    cases e1
    rw [Int.toNat_natCast] at hx0 hx1
    replace hx1 := (HB.out.cell (World.block_lt_of_cell? w _ hx1)).trans hx1
    have hrd := rd109_at l0 i hlt
    rw [hrd] at hx0 hx1 hl1 hC1
    have ho1 := HOK.out l0[i] (List.getElem_mem hlt)
    have hch : (l0.take (i + 1)).flatMap chB = (l0.take i).flatMap chB ++ chB l0[i] := by
     rw [List.take_succ_eq_append_getElem hlt, List.flatMap_append, List.flatMap_cons, List.flatMap_nil, List.append_nil]
    have hfl := flat_len (l0.take i) (fun c hc => HOK.out c (List.mem_of_mem_take hc))
    rw [List.length_take] at hfl
    have hvl := (varint_len64 (n := l0.length) (by have := HN.out; omega)).2
    have hOL : O.length ≤ 5000000 := by rw [HI.out.2, List.length_append]; have := HN.out; omega
    obtain ⟨c, hc⟩ : ∃ c, c = l0[i] := ⟨_, rfl⟩
    rw [← hc] at hx0 hx1 hl1 hC1 ho1 hch
    obtain ⟨x0, hx⟩ : ∃ m : Nat, c.f0 = (m : Int) := ⟨c.f0.toNat, by have := ho1.id0; omega⟩
    obtain ⟨ps, hps⟩ : ∃ p, p = c.f1 := ⟨_, rfl⟩
    obtain ⟨n1, hn1⟩ : ∃ n, n = ps.length := ⟨_, rfl⟩
    obtain ⟨P, hP⟩ : ∃ P, P = putB ps := ⟨_, rfl⟩
    obtain ⟨nP, hnP⟩ : ∃ n, n = P.length := ⟨_, rfl⟩
    have hpr : putR ps = (P, 0) := by rw [hP, hps]; exact putR_ok ho1
    have hPl : nP ≤ 20000 := by rw [hnP, hP, hps]; exact putB_len ho1.n1
    have hxl : x0 < 4096 := by have := ho1.id1; omega
    obtain ⟨O1, hO1⟩ : ∃ O1, O ++ varint x0 = O1 := ⟨_, rfl⟩
    obtain ⟨n9, hn9⟩ : ∃ n, O1.length = n := ⟨_, rfl⟩
    have hO1l : n9 ≤ 5000010 := by rw [← hn9, ← hO1, List.length_append]; have := (varint_len64 (n := x0) (by omega)).2; omega
    obtain ⟨O2, hO2⟩ : ∃ O2, O1 ++ varint P.length ++ P = O2 := ⟨_, rfl⟩
    have HO2 := Aside0.mk (show O2 = varint l0.length ++ (l0.take (i + 1)).flatMap chB by
     rw [hch, ← hO2, ← hO1, HI.out.2, hP, hps]
     unfold chB
     rw [hx, Int.toNat_natCast]
     simp only [List.append_assoc])
    rw [hx] at hx0
    rw [← hps] at hx1 hl1 hC1
    rw [← hn1] at hx1 hl1
    have hcw : IntKind.u64.wrap (x0 : Int) = (x0 : Int) := w_u64 (by omega) (by omega)
    obtain ⟨sP, hsP⟩ : ∃ s, s = strOfNums P := ⟨_, rfl⟩
    have HSP := Aside0.mk hsP
    have HX0 := Aside0.mk hx0
    have HXB := Aside0.mk (World.block_lt_of_cell? w _ hx0)
    have HX := Aside0.mk hnx
    have HC1 := Aside0.mk hC1
    have HL1 := Aside0.mk hl1
    have HN1 := Aside0.mk hn1.symm
    have HNL := Aside0.mk (show n1 < 4611686018427387904 by have := ho1.n1; rw [hn1, hps]; omega)
    have HP1 := Aside0.mk (show (putR ps).1 = P by rw [hpr])
    have HP2 := Aside0.mk (show (putR ps).2 = 0 by rw [hpr])
    have HPN := Aside0.mk hnP.symm
    have HPL := Aside0.mk hPl
    have HPB := Aside0.mk (show Byt P from hP ▸ putB_byt ps)
    have HXL := Aside0.mk hxl
    have HO1 := Aside0.mk hO1
    have HN9 := Aside0.mk hn9
    have HO1L := Aside0.mk hO1l
    have HOO2 := Aside0.mk hO2
    have HOL := Aside0.mk hOL
    have c4 := eq_true hlt
    have c5 := eq_true (show (i : Int) < (l0.length : Int) by omega)
    have c6 := eq_true (show 0 ≤ (i : Int) by omega)
    clear hnx hlt hrd hch hfl hvl hOL hc ho1 hx hps hn1 hP hnP hpr hPl hxl hO1 hn9 hO1l hO2 hsP hC1 hl1
    clear hx0
    go_wp2_with (first
     | (go_at_call 31; ((with_reducible refine (rput4_n A1 c1 n1 ps P 0 _ HN1.out HP1.out HP2.out (Kd.C_below HC1.out HB.out) HL1.out HNL.out).mono ?_); rintro e w8 ⟨v, rfl, ho, hb⟩; clear hx1; obtain ⟨Ap, cp, e_⟩ := Kd.R_slice ho; rw [HPN.out] at e_; subst e_; obtain ⟨Fp, hs_⟩ := Sep.newrow (by repeat (first | exact HS.out | apply sep_alloc | apply sep_drewN | apply sep_drew)) hb (below_size (by repeat (first | exact HB.out | apply below_alloc | apply pw_below_drewN | apply below_drew1))) ho; have n0_ := Aside0.mk (below_step (by repeat (first | exact HB.out | apply below_alloc | apply pw_below_drewN | apply below_drew1)) hb); clear HB HS hb ho; have HB := n0_; have HS := Aside0.mk hs_; clear n0_ hs_)))
    go_wp2
    refine start_ (n := 12) (S := fun w' => w'.cell? (ad.add (i * 2)) = some (.int .i64 (x0 : Int)) ∧ (convert 24 9 (.slice Ap nP cp)).run Try.prog w' = .ok (.string sP) w') (ds := []) #[false, false, false, false, false, false, false, false, false, false, false, false] (by kernel_rfl) rfl rfl ⟨((below_drew HB.out).cell (p := ad.add (i * 2)) HXB.out).trans HX0.out, (by rw [HSP.out]; exact own_string Try.underlying24 Try.underlying5 Try.underlying9 (Kd.own_of_R (Sep.R (sep_drew HS.out))))⟩ (fun hHeld => ?_)
    have n0_ := Aside0.mk (below_drew HB.out)
    have n1_ := Aside0.mk (sep_drew HS.out)
    clear HB HS
    have HB := n0_
    have HS := n1_
    clear n0_ n1_
    generalize (World.drew w8) = wd_ at HB HS hHeld ⊢
    refine pure_ (i := 0) (N := some 30) (v := ?_) (a' := ?_) #[true, false, false, false, false, false, false, false, false, false, false, false] rfl rfl (by kernel_rfl) (fun _ _ _ h => h) (Or.inl ⟨by rfl, ?_⟩) ?_ ?_
    rotate_left
    ·intro w'
     go_simp
     with_reducible rfl
    rotate_left
    ·simp only [Act.put, List.setIfInBounds_toArray, List.set_cons_zero, List.set_cons_succ, i64_w, i32_w]
     rfl
    refine pure_ (i := 1) (N := some 31) (v := ?_) (a' := ?_) #[true, true, false, false, false, false, false, false, false, false, false, false] rfl rfl (by kernel_rfl) (fun _ _ _ h => h) (Or.inl ⟨by rfl, ?_⟩) ?_ ?_
    rotate_left
    ·intro w'
     go_simp
     with_reducible rfl
    rotate_left
    ·simp only [Act.put, List.setIfInBounds_toArray, List.set_cons_zero, List.set_cons_succ, i64_w, i32_w]
     rfl
    refine pure_ (i := 2) (N := some 32) (v := ?_) (a' := ?_) #[true, true, true, false, false, false, false, false, false, false, false, false] rfl rfl (by kernel_rfl) (fun _ _ _ h => h) (Or.inl ⟨by rfl, ?_⟩) ?_ ?_
    rotate_left
    ·intro w'
     go_simp
     with_reducible rfl
    rotate_left
    ·simp only [Act.put, List.setIfInBounds_toArray, List.set_cons_zero, List.set_cons_succ, i64_w, i32_w]
     rfl
    refine pure_ (i := 3) (N := some 33) (v := ?_) (a' := ?_) #[true, true, true, true, false, false, false, false, false, false, false, false] rfl rfl (by kernel_rfl) (fun _ _ _ h => h) (Or.inl ⟨by rfl, ?_⟩) ?_ ?_
    rotate_left
    ·intro w'
     go_simp
     with_reducible rfl
    rotate_left
    ·simp only [Act.put, List.setIfInBounds_toArray, List.set_cons_zero, List.set_cons_succ, i64_w, i32_w]
     rfl
    refine pure_ (i := 4) (N := some 34) (v := ?_) (a' := ?_) #[true, true, true, true, true, false, false, false, false, false, false, false] rfl rfl (by kernel_rfl) (fun _ _ _ h => h) (Or.inl ⟨by rfl, ?_⟩) ?_ ?_
    rotate_left
    ·intro w'
     go_simp
     with_reducible rfl
    rotate_left
    ·simp only [Act.put, List.setIfInBounds_toArray, List.set_cons_zero, List.set_cons_succ, i64_w, i32_w]
     rfl
    refine pure_ (i := 8) (N := some 38) (v := ?_) (a' := ?_) #[true, true, true, true, true, false, false, false, true, false, false, false] rfl rfl (by kernel_rfl) (fun _ _ _ h => h) (Or.inl ⟨by rfl, ?_⟩) ?_ ?_
    rotate_left
    ·intro w'
     go_simp
     with_reducible rfl
    rotate_left
    ·simp only [Act.put, List.setIfInBounds_toArray, List.set_cons_zero, List.set_cons_succ, i64_w, i32_w]
     rfl
    refine take_ (i := 5) (N := some 35) (v := ?_) (a' := ?_) #[true, true, true, true, true, true, false, false, true, false, false, false] rfl rfl (by kernel_rfl) (fun _ _ _ h => h) (Or.inl ⟨by rfl, ?_⟩) hHeld ?_ ?_
    rotate_left
    ·rintro w' ⟨s0, s1⟩
     go_simp
     with_reducible rfl
    rotate_left
    ·simp only [Act.put, List.setIfInBounds_toArray, List.set_cons_zero, List.set_cons_succ, i64_w, i32_w]
     rfl
    refine pure_ (i := 6) (N := some 36) (v := ?_) (a' := ?_) #[true, true, true, true, true, true, true, false, true, false, false, false] rfl rfl (by kernel_rfl) (fun _ _ _ h => h) (Or.inl ⟨by rfl, ?_⟩) ?_ ?_
    rotate_left
    ·intro w'
     go_simp
     with_reducible rfl
    rotate_left
    ·simp only [Act.put, List.setIfInBounds_toArray, List.set_cons_zero, List.set_cons_succ, i64_w, i32_w]
     rfl
    refine take_ (i := 9) (N := some 39) (v := ?_) (a' := ?_) #[true, true, true, true, true, true, true, false, true, true, false, false] rfl rfl (by kernel_rfl) (fun _ _ _ h => h) (Or.inl ⟨by rfl, ?_⟩) hHeld ?_ ?_
    rotate_left
    ·rintro w' ⟨s0, s1⟩
     go_simp
     with_reducible rfl
    rotate_left
    ·simp only [Act.put, List.setIfInBounds_toArray, List.set_cons_zero, List.set_cons_succ, i64_w, i32_w]
     rfl
    refine one_ (i := 7) (N := some 37) #[true, true, true, true, true, true, true, true, true, true, false, false] rfl rfl (by kernel_rfl) (by decide) (fun K hK => ?_)
    refine goes_ Try.func68 (by kernel_rfl) rfl #[.slice Ao O.length co, .int .u64 (x0 : Int)] (by rfl) rfl rfl (by first | (simp only [List.map_toArray, List.map_cons, List.map_nil]; done) | (simp only [List.map_toArray, List.map_cons, List.map_nil]; rfl) | rfl) ?_; with_reducible refine (rput1_n Ao co O.length O x0 O1 _ rfl HO1.out (Kd.R_reads' (Sep.R HS.out.p2)).2.2 (Kd.R_reads' (Sep.R HS.out.p2)).2.1 (by have := HOL.out; omega) (by have := HXL.out; omega)).mono ?_; rintro e w9 ⟨v, rfl, ho, hb⟩; refine ⟨_, rfl, ?_⟩
    obtain ⟨A8, c8, e_⟩ := Kd.R_slice ho; rw [HN9.out] at e_; subst e_; obtain ⟨F8, hs_⟩ := Sep.newrow (by repeat (first | exact HS.out | apply sep_alloc | apply sep_drewN | apply sep_drew)) hb (below_size (by repeat (first | exact HB.out | apply below_alloc | apply pw_below_drewN | apply below_drew1))) ho; have n0_ := Aside0.mk (below_step (by repeat (first | exact HB.out | apply below_alloc | apply pw_below_drewN | apply below_drew1)) hb); clear HB HS hb ho; have HB := n0_; have HS := Aside0.mk hs_; clear n0_ hs_
    refine hK.out _ _ ⟨(HB.out.cell (p := ad.add (i * 2)) HXB.out).trans HX0.out, (by rw [HSP.out]; exact own_string Try.underlying24 Try.underlying5 Try.underlying9 (Kd.own_of_R (Sep.R HS.out.p2)))⟩ (fun hHeld => ?_)
    clear hK K
    refine norm_ (a' := ?_) ?_ ?_
    rotate_left
    ·show Act.put _ (some 37) _ = _
     simp only [Act.put, List.setIfInBounds_toArray, List.set_cons_zero, List.set_cons_succ, i64_w, i32_w]
     rfl
    refine one_ (i := 10) (N := some 40) #[true, true, true, true, true, true, true, true, true, true, true, false] rfl rfl (by kernel_rfl) (by decide) (fun K hK => ?_)
    refine goes_ Try.func89 (by kernel_rfl) rfl #[.slice A8 n9 c8, .string sP] (by rfl) rfl rfl (by first | (simp only [List.map_toArray, List.map_cons, List.map_nil]; done) | (simp only [List.map_toArray, List.map_cons, List.map_nil]; rfl) | rfl) ?_; with_reducible refine (rtext_n A8 c8 n9 O1 P sP O2 _ HN9.out HSP.out HOO2.out (by have h := (Kd.R_reads' (Sep.R HS.out)).2.2; rw [HN9.out] at h; exact h) (Kd.R_reads' (Sep.R HS.out)).2.1 (by have := HO1L.out; omega) (by rw [HPN.out]; have := HPL.out; omega) HPB.out).mono ?_; rintro e w10 ⟨v, rfl, ho, hb⟩; refine ⟨_, rfl, ?_⟩
    obtain ⟨A9, c9, e_⟩ := Kd.R_slice ho; subst e_; obtain ⟨F9, hs_⟩ := Sep.newrow (by repeat (first | exact HS.out | apply sep_alloc | apply sep_drewN | apply sep_drew)) hb (below_size (by repeat (first | exact HB.out | apply below_alloc | apply pw_below_drewN | apply below_drew1))) ho; have n0_ := Aside0.mk (below_step (by repeat (first | exact HB.out | apply below_alloc | apply pw_below_drewN | apply below_drew1)) hb); clear HB HS hb ho; have HB := n0_; have HS := Aside0.mk hs_; clear n0_ hs_
    refine hK.out _ _ ⟨(HB.out.cell (p := ad.add (i * 2)) HXB.out).trans HX0.out, (by rw [HSP.out]; exact own_string Try.underlying24 Try.underlying5 Try.underlying9 (Kd.own_of_R (Sep.R HS.out.p3)))⟩ (fun hHeld => ?_)
    clear hK K
    refine norm_ (a' := ?_) ?_ ?_
    rotate_left
    ·show Act.put _ (some 40) _ = _
     simp only [Act.put, List.setIfInBounds_toArray, List.set_cons_zero, List.set_cons_succ, i64_w, i32_w]
     rfl
    refine pure_ (i := 11) (N := some 4) (v := ?_) (a' := ?_) #[true, true, true, true, true, true, true, true, true, true, true, true] rfl rfl (by kernel_rfl) (fun _ _ _ h => h) (Or.inl ⟨by rfl, ?_⟩) ?_ ?_
    rotate_left
    ·intro w'
     go_simp
     with_reducible rfl
    rotate_left
    ·simp only [Act.put, List.setIfInBounds_toArray, List.set_cons_zero, List.set_cons_succ, i64_w, i32_w]
     rfl
    refine done_ (by kernel_rfl) ?_
    go_wp2
    go_roundg k1
    case measure => omega
    case rel => exact ⟨i + 1, O2, _, (by first | rfl | rw [HX.out]), ⟨by have := HI.out.1; omega, HO2.out⟩, ⟨HS.out.drop2.drop2.drop2⟩, HB⟩
   ·have d1b : decide ((i : Int) < (l0.length : Int)) = false := decide_eq_false (by omega)
    have d1n : decide (i < l0.length) = false := decide_eq_false hlt
    have hOE : O = bodyC l0 := by rw [HI.out.2, List.take_of_length_le (by omega)]; rfl
    have HOE := Aside0.mk hOE
    subst eo
    clear hlt hOE
    go_wp2_with (first
     | (go_at_call 90; ((with_reducible refine (rseal_n Ao co O.length O O9 _ rfl (by rw [HOE.out]; exact HO9.out) (Kd.R_reads' (Sep.R HS.out)).2.2 (Kd.R_reads' (Sep.R HS.out)).2.1 (by rw [HOE.out]; have := HBL.out; omega) (by rw [HOE.out]; exact bodyC_byt _)).mono ?_); rintro e w3 ⟨v, rfl, ho, hb⟩; obtain ⟨A3, c3, e_⟩ := Kd.R_slice ho; subst e_; obtain ⟨F3, hs_⟩ := Sep.newrow (by repeat (first | exact HS.out | apply sep_alloc | apply sep_drewN | apply sep_drew)) hb (below_size (by repeat (first | exact HB.out | apply below_alloc | apply pw_below_drewN | apply below_drew1))) ho; have n0_ := Aside0.mk (below_step (by repeat (first | exact HB.out | apply below_alloc | apply pw_below_drewN | apply below_drew1)) hb); clear HB HS hb ho; have HB := n0_; have HS := Aside0.mk hs_; clear n0_ hs_)))
    go_ret2
    exact ⟨_, rfl, Kd.R_mono (Sep.R HS.out) (fun _ _ => trivial), HB.out⟩
end Go.Proofs.Ythkpnnbjcendcaa.Sc
namespace Go.Proofs.Ythkpnnbjcendcaa.X
end Go.Proofs.Ythkpnnbjcendcaa.X
namespace Go.Proofs.Ythkpnnbjcendcaa.Sc
set_option maxHeartbeats 8000000 in
set_option maxRecDepth 100000 in
theorem rtx_yes (m : Nat) (r t u : List Int) (hm : m < 2 ^ 64) (g : Nat) (A : Option Addr) (c : Nat) (b : List Int) (hb : b = varint m ++ r) (hmr : m ≤ r.length) (ht : t = r.take m) (hu : u = r.drop m) (bad : Bool) (w0 w : World) (hB : Below w0.heap.size w0 w) (hO : Own w0.heap.size w (rtR g (.slice A b.length c) bad)) (hst : ∀ w2, Stay w w2 (fun k => k = g) → Kd.C (Kd.int .u8) w2 A b.length b) (hc : b.length ≤ c) (hby : Byt b) (hl : b.length < 1000000) :
  Calls Try.prog 95 #[.pointer (some ⟨g, 0, none⟩)] w fun e w' => ∃ A' c', e = .returned (.string (strOfNums t)) ∧ u.length ≤ c' ∧ (∀ w2, Kd.C (Kd.int .u8) w2 A b.length b → Kd.C (Kd.int .u8) w2 A' u.length u) ∧ Turned w0 w w' (fun k => k = g) (fun _ => rtR g (.slice A' u.length c') bad) := by
 have HB0 := Aside0.mk hB
 have HB := Aside0.mk hB
 have HS := Aside0.mk (Sep.start hO)
 have HST := Aside0.mk hst
 have HR := Aside0.mk (hst w (fun _ _ _ => rfl))
 have HC := Aside0.mk hc
 have HBY := Aside0.mk hby
 have HL := Aside0.mk hl
 have HM := Aside0.mk hm
 have HBR := Aside0.mk hb
 obtain ⟨nr, hnr⟩ : ∃ n, n = r.length := ⟨_, rfl⟩
 have HNR := Aside0.mk hnr
 rw [← hnr] at hmr
 have hnl : nr < 1000000 := by rw [hb, List.length_append, ← hnr] at hl; omega
 have q1 : decide ((nr : Int) < (m : Int)) = false := decide_eq_false (by omega)
 have q1n : decide (nr < m) = false := decide_eq_false (by omega)
 have hcw : IntKind.u64.wrap (nr : Int) = (nr : Int) := w_u64 (by omega) (by omega)
 have k1 := eq_true hmr
 have k1i := eq_true (show (m : Int) ≤ (nr : Int) by omega)
 have k2i := eq_true (show 0 ≤ (m : Int) by omega)
 obtain ⟨i05, hi05, _, hsz5, _⟩ := info_parts info5
 have HTO := Aside0.mk (fun (A : Option Addr) (c : Nat) (hc : nr ≤ c) => cut_to (P := Try.prog) 24 5 .u64 Try.underlying24 hi05 A nr c (m : Int) (by omega) (by omega) hc)
 have HFR := Aside0.mk (fun (A : Option Addr) (c : Nat) => cut_from (P := Try.prog) 24 5 .u64 Try.underlying24 hi05 1 hsz5 A nr c (m : Int) (by omega) (by omega))
 obtain ⟨nu, hnu⟩ : ∃ n, n = u.length := ⟨_, rfl⟩
 have hun : nr - m = nu := by rw [hnu, hu, List.length_drop, hnr]
 have HUN := Aside0.mk hun
 have htl : t.length = m := by rw [ht, List.length_take]; omega
 have HTC := Aside0.mk (show ∀ (w2 : World) (A2 : Option Addr), Kd.C (Kd.int .u8) w2 A2 r.length r → Kd.C (Kd.int .u8) w2 A2 m t from fun w2 A2 h => by rw [← htl, ht]; exact C_take' h m)
 have HUC := Aside0.mk (show ∀ (w2 : World) (A2 : Option Addr) (c2 : Nat), r.length ≤ c2 → Kd.C (Kd.int .u8) w2 A2 r.length r → Kd.C (Kd.int .u8) w2 (if c2 = m then A2 else A2.map (fun x => x.add (m * 1))) nu u from fun w2 A2 c2 hcc h => by rw [hnu, hu]; exact Kd.C_drop (m := m) h (by omega) hcc)
 obtain ⟨s, hs⟩ : ∃ s, s = strOfNums t := ⟨_, rfl⟩
 have HS_ := Aside0.mk hs
 rw [← hs, ← hnu]
 have hc0 := Sep.c20 HS.out
 clear hB hO hst hc hby hl hm hb hmr ht hu hnr hnl hi05 hsz5 hun htl hs hnu hc0
 go_enter Try.func95, Try.ntmps95
 go_wp2_with (first
  | (go_at_call 79; ((with_reducible refine (rnum_yes m r HM.out g A c b HBR.out bad w0 _ HB.out HS.out.own HR.out HC.out HBY.out HL.out).mono ?_); rintro e w2 ⟨A2, c2, rfl, hlc, hcd, ht⟩; rw [← HNR.out] at ht; have HLC := Aside0.mk hlc; have HCD := Aside0.mk hcd; have HCB := Aside0.mk (Turned.kept ht); clear hlc hcd; obtain ⟨F_, hs_⟩ := Turned.sep ht (HS.out) rfl; have n0_ := Aside0.mk (Turned.below ht); clear HB HS ht; have HB := n0_; have HS := Aside0.mk hs_; clear n0_ hs_; have hc0 := Sep.c20 HS.out; have hf0 := Sep.free HS.out 0; have hto := HTO.out A2 c2 (by rw [HNR.out]; exact HLC.out); have hfr := HFR.out A2 c2; rw [Int.toNat_natCast] at hto hfr; rw [HUN.out] at hfr; obtain ⟨A4, hA4⟩ : ∃ A, A = (if c2 = m then A2 else A2.map (fun x => x.add (m * 1))) := ⟨_, rfl⟩; rw [← hA4] at hfr; have HA4 := Aside0.mk hA4; obtain ⟨c4, hc4⟩ : ∃ c4, c4 = c2 - m := ⟨_, rfl⟩; rw [← hc4] at hfr; have HC4 := Aside0.mk (show nu ≤ c4 by have := HUN.out; have := HLC.out; have := HNR.out; omega); have hcv := Kd.C_string (P := Try.prog) (c := c2) Try.underlying24 Try.underlying5 Try.underlying9 (HTC.out _ A2 (HCD.out _ (HST.out _ HCB.out))); rw [← HS_.out] at hcv; clear hA4 hc4)))
 go_ret
 exact ⟨A4, c4, by first | rfl | simp, HC4.out, fun w2 h2 => by rw [HA4.out]; exact HUC.out w2 A2 c2 HLC.out (HCD.out w2 h2), Turned.of_sep (mk := fun _ => rtR g (.slice A4 nu c4) bad) (F' := fun _ => True) (HS.out.s20 _) HB0.out (below_set HB.out HS.out.ge)⟩
set_option maxHeartbeats 8000000 in
set_option maxRecDepth 100000 in
theorem rtx_no (g : Nat) (A : Option Addr) (c : Nat) (b : List Int) (hno : ∀ (m : Nat) (r : List Int), m < 2 ^ 64 → b = varint m ++ r → r.length < m) (bad : Bool) (w0 w : World) (hB : Below w0.heap.size w0 w) (hO : Own w0.heap.size w (rtR g (.slice A b.length c) bad)) (hr : Kd.C (Kd.int .u8) w A b.length b) (hc : b.length ≤ c) (hby : Byt b) (hl : b.length < 1000000) :
  Calls Try.prog 95 #[.pointer (some ⟨g, 0, none⟩)] w fun e w' => e = .returned (.string (strOfNums [])) ∧ Turned w0 w w' (fun k => k = g) (fun _ => rtR g (.slice none 0 0) true) := by
 have HB0 := Aside0.mk hB
 have HB := Aside0.mk hB
 have HS := Aside0.mk (Sep.start hO)
 have HR := Aside0.mk hr
 have HC := Aside0.mk hc
 have HBY := Aside0.mk hby
 have HL := Aside0.mk hl
 by_cases hex : ∃ (m : Nat) (r : List Int), m < 2 ^ 64 ∧ b = varint m ++ r
 ·obtain ⟨m, r, hm, hb⟩ := hex
  have hmr := hno m r hm hb
  have HM := Aside0.mk hm
  have HBR := Aside0.mk hb
  obtain ⟨nr, hnr⟩ : ∃ n, n = r.length := ⟨_, rfl⟩
  have HNR := Aside0.mk hnr
  rw [← hnr] at hmr
  have q1 : decide ((nr : Int) < (m : Int)) = true := decide_eq_true (by omega)
  have q1n : decide (nr < m) = true := decide_eq_true hmr
  have hcw : IntKind.u64.wrap (nr : Int) = (nr : Int) := w_u64 (by omega) (by omega)
  clear hB hO hr hc hby hl hm hb hmr hnr hno
  go_enter Try.func95, Try.ntmps95
  go_wp2_with (first
   | (go_at_call 79; ((with_reducible refine (rnum_yes m r HM.out g A c b HBR.out bad w0 _ HB.out HS.out.own HR.out HC.out HBY.out HL.out).mono ?_); rintro e w2 ⟨A2, c2, rfl, hlc, hcd, ht⟩; rw [← HNR.out] at ht; clear hlc hcd; obtain ⟨F_, hs_⟩ := Turned.sep ht (HS.out) rfl; have n0_ := Aside0.mk (Turned.below ht); clear HB HS ht; have HB := n0_; have HS := Aside0.mk hs_; clear n0_ hs_; have hc0 := Sep.c20 HS.out))
   | (go_at_call 103; ((with_reducible refine (rfail_calls g _ bad w0 _ HB.out HS.out.own).mono ?_); rintro e w8 ⟨rfl, ht⟩; clear hc0; obtain ⟨F_, hs_⟩ := Turned.sep ht (HS.out) rfl; have n0_ := Aside0.mk (Turned.below ht); clear HB HS ht; have HB := n0_; have HS := Aside0.mk hs_; clear n0_ hs_)))
  go_ret
  exact ⟨by first | rfl | simp, Turned.of_sep (mk := fun _ => rtR g (.slice none 0 0) true) (F' := fun _ => True) HS.out HB0.out HB.out⟩
 ·have HNO := Aside0.mk (show ∀ m r, m < 2 ^ 64 → b ≠ varint m ++ r from fun m r hm he => hex ⟨m, r, hm, he⟩)
  have hcv : ∀ W : World, (convert 24 9 (.slice none 0 0)).run Try.prog W = .ok (.string (strOfNums [])) W := fun W => Kd.C_string (P := Try.prog) (w := W) (n := 0) (c := 0) Try.underlying24 Try.underlying5 Try.underlying9 (Kd.C_nil (Kd.int .u8) W)
  obtain ⟨i05, hi05, _, hsz5, _⟩ := info_parts info5
  have hto := cut_to (P := Try.prog) 24 5 .u64 Try.underlying24 hi05 none 0 0 0 (by omega) (by omega) (by omega)
  have hfr := cut_from (P := Try.prog) 24 5 .u64 Try.underlying24 hi05 1 hsz5 none 0 0 0 (by omega) (by omega)
  have hto2 : ∀ W : World, (Instr.slice 24 (.slice none 0 0) none (some (.int .u64 0)) none).run Try.prog W = .ok (.slice none 0 0) W := fun W => by have := hto W; simpa using this
  have hfr2 : ∀ W : World, (Instr.slice 24 (.slice none 0 0) (some (.int .u64 0)) none none).run Try.prog W = .ok (.slice none 0 0) W := fun W => by have := hfr W; simpa using this
  clear hB hO hr hc hby hl hex hno hi05 hsz5 hto hfr
  go_enter Try.func95, Try.ntmps95
  go_wp2_with (first
   | (go_at_call 79; ((with_reducible refine (rnum_no g A c b HNO.out bad w0 _ HB.out HS.out.own HR.out HC.out HBY.out HL.out).mono ?_); rintro e w2 ⟨rfl, ht⟩; obtain ⟨F_, hs_⟩ := Turned.sep ht (HS.out) rfl; have n0_ := Aside0.mk (Turned.below ht); clear HB HS ht; have HB := n0_; have HS := Aside0.mk hs_; clear n0_ hs_; have hc0 := Sep.c20 HS.out; have hf0 := Sep.free HS.out 0)))
  go_ret
  exact ⟨by first | rfl | simp, Turned.of_sep (mk := fun _ => rtR g (.slice none 0 0) true) (F' := fun _ => True) (HS.out.s20 _) HB0.out (below_set HB.out HS.out.ge)⟩
end Go.Proofs.Ythkpnnbjcendcaa.Sc
end
