/- BlockRanges, walked. -/
import Derived.Test.YthkpnnbjcendcaaPbcQb
import Derived.Laws.Cover1
import Derived.WideShapes
set_option linter.unusedVariables false
set_option linter.unusedSimpArgs false
open Go.RowKit Go.Proofs.Ythkpnnbjcendcaa.X Go.Proofs.Ythkpnnbjcendcaa.Pl Go.Proofs.Ythkpnnbjcendcaa.Sp Go.Proofs.Ythkpnnbjcendcaa.Sc Go.Proofs.Ythkpnnbjcendcaa.Pure Go.Proofs.YthkpnnbjcendcaaW.PrintWords Go.Proofs.YthkpnnbjcendcaaW.PrintLast Go.Proofs.YthkpnnbjcendcaaW.PrintMore
namespace Go.Proofs.Ythkpnnbjcendcaa.Sc
theorem few9_calls (A0 : Option Addr) (c0 : Nat) (l0 x : List S109) (nx : Nat) (w : World) (hr0 : Kd.C k109 w A0 l0.length l0) (hc0 : l0.length ≤ c0) (hx : Ev (fun k => marigraphlaw09_few.f k l0) x) (hn : x.length = nx) :
    Calls Try.prog 44 #[.slice A0 l0.length c0] w fun e w' => ∃ A c, e = .returned (.slice A nx c) ∧ Kd.C k109 w' A x.length x ∧ nx ≤ c ∧ Below w.heap.size w w' := by
  subst hn
  obtain ⟨K, hK⟩ := hx
  refine (marigraphlaw09_few.calls K (fun k_ => k_ < w.heap.size) A0 c0 l0 x w (Kd.V_mk hc0 (Kd.F_below (Kd.C_F k109_heap hr0) (Below.refl _ _))) (hK K (Nat.le_refl _))).mono ?_
  rintro e w' ⟨v, rfl, hN, hb⟩
  obtain ⟨A, c, rfl⟩ := Kd.N_slice hN
  have h := Kd.N_reads' hN
  exact ⟨A, c, rfl, h.2.2, h.2.1, hb⟩
theorem shown9_calls (w : World) : Calls Try.prog 47 #[] w fun e w' => e = .returned (.bool true) ∧ Below w.heap.size w w' := by
  obtain ⟨K, hK⟩ := shown9_ev
  exact marigraphlaw09_shown.calls K true w (hK K (Nat.le_refl _))
theorem span9_calls (A0 : Option Addr) (c0 nx : Nat) (x : List S109) (a b : Int) (o : Bool) (w : World) (hn : x.length = nx) (hs : spanL (0, 0, false) (x.flatMap (·.f1)) = (a, b, o)) (hl : nx < 1000000000) (hE : ∀ c ∈ x, c.f1.length < 1000000000) (hr0 : Kd.C k109 w A0 x.length x) (hc0 : nx ≤ c0) :
    Calls Try.prog 45 #[.slice A0 nx c0] w fun e w' => e = .returned (.tuple #[.int .i64 a, .int .i64 b, .bool o]) ∧ Below w.heap.size w w' := by
  subst hn
  obtain ⟨K, hK⟩ := span_ev x (by omega) (fun c hc => by have := hE c hc; omega)
  rw [hs] at hK
  exact block_Span.calls K A0 c0 x a b o w hr0 hc0 (hK K (Nat.le_refl _))
theorem range_n (A0 : Option Addr) (c0 nx : Nat) (x : List S109) (id fr tl : Int) (r : List S52) (w : World) (hn : x.length = nx) (hr : rangeL x id fr tl = r) (hr0 : Kd.C k109 w A0 x.length x) (hc0 : nx ≤ c0) (hl : nx < 1000000000) (hE : ∀ c ∈ x, c.f1.length < 1000000000) :
    Calls Try.prog 48 #[.slice A0 nx c0, .int .i64 id, .int .i64 fr, .int .i64 tl] w fun e w' => ∃ v, e = .returned v ∧ Kd.R k52 52 w' w.heap.size (fun _ => True) v r ∧ Below w.heap.size w w' := by
  subst hn hr
  exact range_calls A0 c0 x id fr tl w hr0 hc0 hl hE
end Go.Proofs.Ythkpnnbjcendcaa.Sc
namespace Go.Proofs.Ythkpnnbjcendcaa.Pure
theorem inR_iff (a b : Int) (p : S52) : inR a b p = true ↔ a ≤ p.f0 ∧ p.f0 ≤ b := by
  unfold inR
  by_cases h1 : p.f0 < a <;> by_cases h2 : b < p.f0 <;> simp [h1, h2] <;> omega
theorem cnt_split (l : List S52) (a m b : Int) (h1 : a ≤ m) (h2 : m ≤ b) : (l.filter (inR a b)).length = (l.filter (inR a m)).length + (l.filter (inR (m + 1) b)).length := by
  induction l with
  | nil => rfl
  | cons p l ih =>
    rw [List.filter_cons, List.filter_cons, List.filter_cons]
    have e1 := inR_iff a b p
    have e2 := inR_iff a m p
    have e3 := inR_iff (m + 1) b p
    by_cases c1 : a ≤ p.f0 ∧ p.f0 ≤ m
    · rw [if_pos (e1.2 ⟨c1.1, by omega⟩), if_pos (e2.2 c1), if_neg (fun h => by have := e3.1 h; omega), List.length_cons, List.length_cons, ih]
      omega
    · by_cases c2 : m + 1 ≤ p.f0 ∧ p.f0 ≤ b
      · rw [if_pos (e1.2 ⟨by omega, c2.2⟩), if_neg (fun h => c1 (e2.1 h)), if_pos (e3.2 c2), List.length_cons, List.length_cons, ih]
        omega
      · rw [if_neg (fun h => by have := e1.1 h; omega), if_neg (fun h => c1 (e2.1 h)), if_neg (fun h => c2 (e3.1 h)), ih]
theorem range_split (x : List S109) (id a m b : Int) (h1 : a ≤ m) (h2 : m ≤ b) : (rangeL x id a b).length = (rangeL x id a m).length + (rangeL x id (m + 1) b).length := by
  unfold rangeL
  rcases h : x.findIdx? (fun x => x.f0 == id) with _ | k
  · rw [h]; rfl
  · rw [h]; exact cnt_split _ a m b h1 h2
theorem range_mem {x : List S109} {id a b : Int} {p : S52} (h : p ∈ rangeL x id a b) : p ∈ x.flatMap (·.f1) ∧ a ≤ p.f0 ∧ p.f0 ≤ b := by
  unfold rangeL at h
  rcases hk : x.findIdx? (fun x => x.f0 == id) with _ | k
  · rw [hk] at h; cases h
  · rw [hk] at h
    obtain ⟨hkl, -⟩ := List.findIdx?_eq_some_iff_getElem.1 hk
    have h : p ∈ (rd_T109 x (k : Int)).f1.filter (inR a b) := h
    rw [rdc109 x k hkl] at h
    obtain ⟨h1, h2⟩ := List.mem_filter.1 h
    exact ⟨List.mem_flatMap.2 ⟨_, List.getElem_mem hkl, h1⟩, (inR_iff a b p).1 h2⟩
end Go.Proofs.Ythkpnnbjcendcaa.Pure
namespace Go.Proofs.Ythkpnnbjcendcaa.X
open Go.WideShapes in
theorem okWide_array {P : Program} {w : World} {r : Reach} {base : Nat} {t : TypeId} {v : Value} {n : Nat} {e : TypeId} (ht : P.underlying t = some (.array n e)) (h : Value.okWide P w r base t v) : ∃ cs, v = .agg cs ∧ cs.size = P.cellsOf t := by
  simp only [Value.okWide, ht] at h
  obtain ⟨cs, h1, h2, _⟩ := h
  exact ⟨cs, h1, h2⟩
/- three whole numbers: as the print tells them -/
structure S74 where
  f0 : Int
  f1 : Int
  f2 : Int
def k74 : Kd S74 := Kd.iso (Kd.pair (Kd.int .i64) (Kd.pair (Kd.int .i64) (Kd.int .i64))) (fun x : S74 => (x.f0, x.f1, x.f2))
theorem k74_open {w : World} {x : S74} {cs : List Value} (h : k74.K w x cs) : cs = [.int .i64 x.f0, .int .i64 x.f1, .int .i64 x.f2] := by
  obtain ⟨_, _, rfl, rfl, ⟨_, _, rfl, rfl, rfl⟩⟩ := h
  exact rfl
def marigraphlaw09_BlockRanges.Fit (l : List S109) (a b c d : Int) : Prop := l.length * 32 ≤ 140737488351232 ∧ (∀ y ∈ l, (Lit.int .i64 y.f0).wf = true ∧ y.f1.length * 16 ≤ 140737488351232 ∧ (∀ z ∈ y.f1, (Lit.int .i64 z.f0).wf = true ∧ (Lit.int .i64 z.f1).wf = true)) ∧ (Lit.int .i64 a).wf = true ∧ (Lit.int .i64 b).wf = true ∧ (Lit.int .i64 c).wf = true ∧ (Lit.int .i64 d).wf = true
open Classical in
noncomputable def marigraphlaw09_BlockRanges.f (l : List S109) (a b c d : Int) : Option Bool := if marigraphlaw09_BlockRanges.Fit l a b c d then some true else none
set_option maxHeartbeats 16000000 in
set_option maxRecDepth 100000 in
theorem marigraphlaw09_BlockRanges.calls (A0 : Option Addr) (c0 : Nat) (l0 : List S109) (a1 p q s : Int) (r : Bool) (w : World) (hr0 : Kd.C k109 w A0 l0.length l0) (hc0 : l0.length ≤ c0) (h : marigraphlaw09_BlockRanges.f l0 a1 p q s = some r) :
    Calls Try.prog 15 #[.slice A0 l0.length c0, .int .i64 a1, .agg #[.int .i64 p, .int .i64 q, .int .i64 s]] w fun e w' => e = .returned (.bool r) ∧ Below w.heap.size w w' := by
  unfold marigraphlaw09_BlockRanges.f at h
  split at h
  case isFalse => cases h
  case isTrue hfit =>
  obtain rfl := Option.some.inj h
  obtain ⟨hlen, hwf, _, hp, hq, hs⟩ := hfit
  have hp := wf64 hp
  have hq := wf64 hq
  have hs := wf64 hs
  unfold fits64 at hp hq hs
  obtain ⟨n0, hf0, hxn, hxe, hxt⟩ := few_ev l0 (by omega) (fun c hc => by have := (hwf c hc).2.1; omega)
  obtain ⟨x, hx⟩ : ∃ x, x = l0.take n0 := ⟨_, rfl⟩
  rw [← hx] at hf0 hxn hxe hxt
  obtain ⟨nx, hnx⟩ : ∃ n, x.length = n := ⟨_, rfl⟩
  have HNX := Aside0.mk hnx
  have HEV := Aside0.mk hf0
  have HXN := Aside0.mk (show nx < 1000000000 by omega)
  have HXE := Aside0.mk (show ∀ c ∈ x, c.f1.length < 1000000000 from fun c hc => by have := hxe c hc; omega)
  -- the times
  obtain ⟨m1, hm1⟩ : ∃ m, (if q < p then q else p) = m := ⟨_, rfl⟩
  obtain ⟨M1, hM1⟩ : ∃ m, (if p < q then q else p) = m := ⟨_, rfl⟩
  obtain ⟨fr, hfr⟩ : ∃ m, (if s < m1 then s else m1) = m := ⟨_, rfl⟩
  obtain ⟨u, hu⟩ : ∃ m, (if s < M1 then s else M1) = m := ⟨_, rfl⟩
  obtain ⟨md, hmd⟩ : ∃ m, (if m1 < u then u else m1) = m := ⟨_, rfl⟩
  obtain ⟨tt, htt⟩ : ∃ m, (if M1 < s then s else M1) = m := ⟨_, rfl⟩
  have hord : fr ≤ md ∧ md ≤ tt ∧ -9223372036854775808 ≤ md ∧ tt ≤ 9223372036854775807 := by
    revert hm1 hM1 hfr hu hmd htt
    (repeat' split) <;> intros <;> omega
  have hmw : md < tt → wrap64 (md + 1) = md + 1 := fun h => by rw [w64 (by omega) (by omega)]
  obtain ⟨sa, sb, so, hspan⟩ : ∃ a b o, spanL (0, 0, false) (x.flatMap (·.f1)) = (a, b, o) := ⟨_, _, _, rfl⟩
  have hwit := spanL_within (x.flatMap (·.f1)) (0, 0, false)
  rw [hspan] at hwit
  have HSP := Aside0.mk hspan
  obtain ⟨L, hL⟩ : ∃ L, rangeL x a1 fr tt = L := ⟨_, rfl⟩
  obtain ⟨L2, hL2⟩ : ∃ L, rangeL x a1 fr md = L := ⟨_, rfl⟩
  obtain ⟨L3, hL3⟩ : ∃ L, rangeL x a1 (md + 1) tt = L := ⟨_, rfl⟩
  have hsp := range_split x a1 fr md tt hord.1 hord.2.1
  rw [hL, hL2, hL3] at hsp
  obtain ⟨na, hna⟩ : ∃ n, L.length = n := ⟨_, rfl⟩
  obtain ⟨nb, hnb⟩ : ∃ n, L2.length = n := ⟨_, rfl⟩
  obtain ⟨nc, hnc⟩ : ∃ n, L3.length = n := ⟨_, rfl⟩
  rw [hna, hnb, hnc] at hsp
  have hLn : na ≤ 6000 := by
    rw [← hna, ← hL]
    unfold rangeL
    rcases hk : x.findIdx? (fun x => x.f0 == a1) with _ | k
    · rw [hk]; exact Nat.zero_le _
    · obtain ⟨hkl, -⟩ := List.findIdx?_eq_some_iff_getElem.1 hk
      rw [hk]
      show ((rd_T109 x (k : Int)).f1.filter _).length ≤ _
      have := hxe _ (List.getElem_mem hkl)
      rw [rdc109 x k hkl]
      exact Nat.le_trans (List.length_filter_le _ _) (by omega)
  have hmem : ∀ y ∈ L, sa ≤ y.f0 ∧ y.f0 ≤ sb ∧ fr ≤ y.f0 ∧ y.f0 ≤ tt := fun y hy => by
    rw [← hL] at hy
    obtain ⟨h1, h2, h3⟩ := range_mem hy
    have := hwit.2.2 y h1
    exact ⟨this.1, this.2, h2, h3⟩
  have hso : so = false → na = 0 := fun h => by
    rcases L with _ | ⟨y, L'⟩
    · exact hna.symm
    · have h1 := (range_mem (x := x) (id := a1) (a := fr) (b := tt) (p := y) (by rw [hL]; simp)).1
      have h2 := hwit.1
      rw [h] at h2
      have h3 : 0 < (x.flatMap (·.f1)).length := List.length_pos_iff.2 (List.ne_nil_of_mem h1)
      rw [decide_eq_true h3] at h2
      simp at h2
  have hrest : md = tt → nc = 0 := fun h => by
    rw [← hnc, ← hL3]
    rcases hc : rangeL x a1 (md + 1) tt with _ | ⟨y, L'⟩
    · rfl
    · have := (range_mem (x := x) (id := a1) (a := md + 1) (b := tt) (p := y) (by rw [hc]; simp)).2
      omega
  have HL := Aside0.mk hL
  have HL2 := Aside0.mk hL2
  have HL3 := Aside0.mk hL3
  have HNA := Aside0.mk hna
  have HNB := Aside0.mk hnb
  have HNC := Aside0.mk hnc
  have HLN := Aside0.mk hLn
  have HMEM := Aside0.mk hmem
  have HR := Aside0.mk hr0
  have HC := Aside0.mk hc0
  have HB := Aside0.mk (Below.refl w.heap.size w)
  have HS := Aside0.mk (Sep.nil w.heap.size w)
  have HSUM := Aside0.mk (show wrap64 ((nb : Int) + (nc : Int)) = (na : Int) by rw [w64 (by omega) (by omega)]; omega)
  have HSUM0 := Aside0.mk (show md = tt → wrap64 ((nb : Int) + 0) = (na : Int) from fun h => by have := hrest h; rw [w64 (by omega) (by omega)]; omega)
  have hcs : (so = true ∨ so = false ∧ decide ((0 : Int) < (na : Int)) = false ∧ decide (0 < na) = false ∧ (0 < na) = False ∧ ((0 : Int) < (na : Int)) = False) := by
    cases so
    · have h0 := hso rfl
      exact .inr ⟨rfl, decide_eq_false (by omega), decide_eq_false (by omega), eq_false (by omega), eq_false (by omega)⟩
    · exact .inl rfl
  have hcm : (decide (md < tt) = true ∧ wrap64 (md + 1) = md + 1) ∨ (decide (md < tt) = false ∧ wrap64 ((nb : Int) + 0) = (na : Int) ∧ wrap64 (nb : Int) = (na : Int)) := by
    by_cases h : md < tt
    · exact .inl ⟨decide_eq_true h, hmw h⟩
    · have h2 : md = tt := by omega
      have h3 := HSUM0.out h2
      exact .inr ⟨decide_eq_false h, h3, by rwa [Int.add_zero] at h3⟩
  have hsum := HSUM.out
  clear h hr0 hc0 hlen hwf hp hq hs hf0 hxn hxe hxt hx hnx hord hmw hspan hwit hL hL2 hL3 hsp hna hnb hnc hLn hmem hso hrest HSUM HSUM0
  go_enter Try.func15, Try.ntmps15
  go_wp2_with (first
    | ((with_reducible refine gate_dst (N := 5) rfl ?_); (try (refine gate_guard (by rfl) ?_; dsimp only)); refine box_event ?hg (N := 5) ?hd (cs := #[.int .i64 p, .int .i64 q, .int .i64 s]) (t := 74) ?hr ?_; (case hd => rfl); (case hg => rfl); (case hr => first | (go_simp; done) | (go_simp; rfl)); intro gt hg w1 hbox hb; have n0_ := Aside0.mk (below_step (by repeat (first | (with_reducible first | exact HB.out | apply below_alloc | apply pw_below_drewN | apply below_drew1) | exact HB.out)) hb); have n1_ := Aside0.mk (Sep.newbox (by repeat (first | (with_reducible first | exact HS.out | apply sep_alloc | apply sep_drewN | apply sep_drew) | exact HS.out)) hb (Nat.le_of_eq hg.symm) (below_size (by repeat (first | (with_reducible first | exact HB.out | apply below_alloc | apply pw_below_drewN | apply below_drew1) | exact HB.out))) hbox); clear HB HS; have HB := n0_; have HS := n1_; clear n0_ n1_ hb hbox hg)
    | (go_at_call 47; ((with_reducible refine (shown9_calls _).mono ?_); rintro e w2_ ⟨rfl, hb⟩; have n0_ := Aside0.mk (below_step (by repeat (first | (with_reducible first | exact HB.out | apply below_alloc | apply pw_below_drewN | apply below_drew1) | exact HB.out)) hb); have n1_ := Aside0.mk (Sep.below (by repeat (first | (with_reducible first | exact HS.out | apply sep_alloc | apply sep_drewN | apply sep_drew) | exact HS.out)) hb); clear HB HS; have HB := n0_; have HS := n1_; clear n0_ n1_ hb))
    | (go_at_call 44; ((with_reducible refine (few9_calls A0 c0 l0 x nx _ (Kd.C_below HR.out HB.out) HC.out HEV.out HNX.out).mono ?_); rintro e w2 ⟨A2, c2, rfl, hx, hcx, hb⟩; have n0_ := Aside0.mk (below_step (by repeat (first | (with_reducible first | exact HB.out | apply below_alloc | apply pw_below_drewN | apply below_drew1) | exact HB.out)) hb); have n1_ := Aside0.mk (Sep.below (by repeat (first | (with_reducible first | exact HS.out | apply sep_alloc | apply sep_drewN | apply sep_drew) | exact HS.out)) hb); clear HB HS; have HB := n0_; have HS := n1_; clear n0_ n1_ hb; have HCX := Aside0.mk hx; have HCC := Aside0.mk hcx; clear hx hcx; have HG0 := Aside0.mk (Sep.c30 HS.out); have HG1 := Aside0.mk (Sep.c31 HS.out); have HG2 := Aside0.mk (Sep.c32 HS.out); have HGL := Aside0.mk (World.block_lt_of_cell? w2 _ HG0.out); have HBW := Aside0.mk HB.out; clear HB HS; have HB := Aside0.mk (Below.refl w2.heap.size w2); have HS := Aside0.mk (Sep.nil w2.heap.size w2))))
  refine start_ (n := 31) (S := fun w' => w'.cell? ⟨gt, 0, none⟩ = some (.int .i64 p) ∧ w'.cell? ⟨gt, 1, none⟩ = some (.int .i64 q) ∧ w'.cell? ⟨gt, 2, none⟩ = some (.int .i64 s)) (ds := []) #[false, false, false, false, false, false, false, false, false, false, false, false, false, false, false, false, false, false, false, false, false, false, false, false, false, false, false, false, false, false, false] (by kernel_rfl) rfl rfl ⟨((below_drew HB.out).cell (p := ⟨gt, 0, none⟩) HGL.out).trans HG0.out, ((below_drew HB.out).cell (p := ⟨gt, 1, none⟩) HGL.out).trans HG1.out, ((below_drew HB.out).cell (p := ⟨gt, 2, none⟩) HGL.out).trans HG2.out⟩ (fun hHeld => ?_)
  have n0_ := Aside0.mk (below_drew HB.out)
  have n1_ := Aside0.mk (sep_drew HS.out)
  clear HB HS
  have HB := n0_
  have HS := n1_
  clear n0_ n1_
  generalize (World.drew w2) = wd_ at HB HS hHeld ⊢
  refine pure_ (i := 0) (N := some 23) (v := ?_) (a' := ?_) #[true, false, false, false, false, false, false, false, false, false, false, false, false, false, false, false, false, false, false, false, false, false, false, false, false, false, false, false, false, false, false] rfl rfl (by kernel_rfl) (fun _ _ _ h => h) (Or.inl ⟨by rfl, ?_⟩) ?_ ?_
  rotate_left
  · intro w'
    go_simp
    with_reducible rfl
  rotate_left
  · simp only [Act.put, List.setIfInBounds_toArray, List.set_cons_zero, List.set_cons_succ, i64_w, i32_w]
    rfl
  refine pure_ (i := 2) (N := some 25) (v := ?_) (a' := ?_) #[true, false, true, false, false, false, false, false, false, false, false, false, false, false, false, false, false, false, false, false, false, false, false, false, false, false, false, false, false, false, false] rfl rfl (by kernel_rfl) (fun _ _ _ h => h) (Or.inl ⟨by rfl, ?_⟩) ?_ ?_
  rotate_left
  · intro w'
    go_simp
    with_reducible rfl
  rotate_left
  · simp only [Act.put, List.setIfInBounds_toArray, List.set_cons_zero, List.set_cons_succ, i64_w, i32_w]
    rfl
  refine pure_ (i := 4) (N := some 27) (v := ?_) (a' := ?_) #[true, false, true, false, true, false, false, false, false, false, false, false, false, false, false, false, false, false, false, false, false, false, false, false, false, false, false, false, false, false, false] rfl rfl (by kernel_rfl) (fun _ _ _ h => h) (Or.inl ⟨by rfl, ?_⟩) ?_ ?_
  rotate_left
  · intro w'
    go_simp
    with_reducible rfl
  rotate_left
  · simp only [Act.put, List.setIfInBounds_toArray, List.set_cons_zero, List.set_cons_succ, i64_w, i32_w]
    rfl
  refine pure_ (i := 7) (N := some 30) (v := ?_) (a' := ?_) #[true, false, true, false, true, false, false, true, false, false, false, false, false, false, false, false, false, false, false, false, false, false, false, false, false, false, false, false, false, false, false] rfl rfl (by kernel_rfl) (fun _ _ _ h => h) (Or.inl ⟨by rfl, ?_⟩) ?_ ?_
  rotate_left
  · intro w'
    go_simp
    with_reducible rfl
  rotate_left
  · simp only [Act.put, List.setIfInBounds_toArray, List.set_cons_zero, List.set_cons_succ, i64_w, i32_w]
    rfl
  refine pure_ (i := 9) (N := some 32) (v := ?_) (a' := ?_) #[true, false, true, false, true, false, false, true, false, true, false, false, false, false, false, false, false, false, false, false, false, false, false, false, false, false, false, false, false, false, false] rfl rfl (by kernel_rfl) (fun _ _ _ h => h) (Or.inl ⟨by rfl, ?_⟩) ?_ ?_
  rotate_left
  · intro w'
    go_simp
    with_reducible rfl
  rotate_left
  · simp only [Act.put, List.setIfInBounds_toArray, List.set_cons_zero, List.set_cons_succ, i64_w, i32_w]
    rfl
  refine pure_ (i := 12) (N := some 35) (v := ?_) (a' := ?_) #[true, false, true, false, true, false, false, true, false, true, false, false, true, false, false, false, false, false, false, false, false, false, false, false, false, false, false, false, false, false, false] rfl rfl (by kernel_rfl) (fun _ _ _ h => h) (Or.inl ⟨by rfl, ?_⟩) ?_ ?_
  rotate_left
  · intro w'
    go_simp
    with_reducible rfl
  rotate_left
  · simp only [Act.put, List.setIfInBounds_toArray, List.set_cons_zero, List.set_cons_succ, i64_w, i32_w]
    rfl
  refine pure_ (i := 14) (N := some 37) (v := ?_) (a' := ?_) #[true, false, true, false, true, false, false, true, false, true, false, false, true, false, true, false, false, false, false, false, false, false, false, false, false, false, false, false, false, false, false] rfl rfl (by kernel_rfl) (fun _ _ _ h => h) (Or.inl ⟨by rfl, ?_⟩) ?_ ?_
  rotate_left
  · intro w'
    go_simp
    with_reducible rfl
  rotate_left
  · simp only [Act.put, List.setIfInBounds_toArray, List.set_cons_zero, List.set_cons_succ, i64_w, i32_w]
    rfl
  refine pure_ (i := 17) (N := some 40) (v := ?_) (a' := ?_) #[true, false, true, false, true, false, false, true, false, true, false, false, true, false, true, false, false, true, false, false, false, false, false, false, false, false, false, false, false, false, false] rfl rfl (by kernel_rfl) (fun _ _ _ h => h) (Or.inl ⟨by rfl, ?_⟩) ?_ ?_
  rotate_left
  · intro w'
    go_simp
    with_reducible rfl
  rotate_left
  · simp only [Act.put, List.setIfInBounds_toArray, List.set_cons_zero, List.set_cons_succ, i64_w, i32_w]
    rfl
  refine pure_ (i := 21) (N := some 44) (v := ?_) (a' := ?_) #[true, false, true, false, true, false, false, true, false, true, false, false, true, false, true, false, false, true, false, false, false, true, false, false, false, false, false, false, false, false, false] rfl rfl (by kernel_rfl) (fun _ _ _ h => h) (Or.inl ⟨by rfl, ?_⟩) ?_ ?_
  rotate_left
  · intro w'
    go_simp
    with_reducible rfl
  rotate_left
  · simp only [Act.put, List.setIfInBounds_toArray, List.set_cons_zero, List.set_cons_succ, i64_w, i32_w]
    rfl
  refine pure_ (i := 23) (N := some 46) (v := ?_) (a' := ?_) #[true, false, true, false, true, false, false, true, false, true, false, false, true, false, true, false, false, true, false, false, false, true, false, true, false, false, false, false, false, false, false] rfl rfl (by kernel_rfl) (fun _ _ _ h => h) (Or.inl ⟨by rfl, ?_⟩) ?_ ?_
  rotate_left
  · intro w'
    go_simp
    with_reducible rfl
  rotate_left
  · simp only [Act.put, List.setIfInBounds_toArray, List.set_cons_zero, List.set_cons_succ, i64_w, i32_w]
    rfl
  refine pure_ (i := 25) (N := some 48) (v := ?_) (a' := ?_) #[true, false, true, false, true, false, false, true, false, true, false, false, true, false, true, false, false, true, false, false, false, true, false, true, false, true, false, false, false, false, false] rfl rfl (by kernel_rfl) (fun _ _ _ h => h) (Or.inl ⟨by rfl, ?_⟩) ?_ ?_
  rotate_left
  · intro w'
    go_simp
    with_reducible rfl
  rotate_left
  · simp only [Act.put, List.setIfInBounds_toArray, List.set_cons_zero, List.set_cons_succ, i64_w, i32_w]
    rfl
  refine take_ (i := 1) (N := some 24) (v := ?_) (a' := ?_) #[true, true, true, false, true, false, false, true, false, true, false, false, true, false, true, false, false, true, false, false, false, true, false, true, false, true, false, false, false, false, false] rfl rfl (by kernel_rfl) (fun _ _ _ h => h) (Or.inl ⟨by rfl, ?_⟩) hHeld ?_ ?_
  rotate_left
  · rintro w' ⟨s0, s1, s2⟩
    go_simp
    with_reducible rfl
  rotate_left
  · simp only [Act.put, List.setIfInBounds_toArray, List.set_cons_zero, List.set_cons_succ, i64_w, i32_w]
    rfl
  refine take_ (i := 3) (N := some 26) (v := ?_) (a' := ?_) #[true, true, true, true, true, false, false, true, false, true, false, false, true, false, true, false, false, true, false, false, false, true, false, true, false, true, false, false, false, false, false] rfl rfl (by kernel_rfl) (fun _ _ _ h => h) (Or.inl ⟨by rfl, ?_⟩) hHeld ?_ ?_
  rotate_left
  · rintro w' ⟨s0, s1, s2⟩
    go_simp
    with_reducible rfl
  rotate_left
  · simp only [Act.put, List.setIfInBounds_toArray, List.set_cons_zero, List.set_cons_succ, i64_w, i32_w]
    rfl
  refine take_ (i := 5) (N := some 28) (v := ?_) (a' := ?_) #[true, true, true, true, true, true, false, true, false, true, false, false, true, false, true, false, false, true, false, false, false, true, false, true, false, true, false, false, false, false, false] rfl rfl (by kernel_rfl) (fun _ _ _ h => h) (Or.inl ⟨by rfl, ?_⟩) hHeld ?_ ?_
  rotate_left
  · rintro w' ⟨s0, s1, s2⟩
    go_simp
    with_reducible rfl
  rotate_left
  · simp only [Act.put, List.setIfInBounds_toArray, List.set_cons_zero, List.set_cons_succ, i64_w, i32_w]
    rfl
  refine pure_ (i := 6) (N := some 29) (v := ?_) (a' := ?_) #[true, true, true, true, true, true, true, true, false, true, false, false, true, false, true, false, false, true, false, false, false, true, false, true, false, true, false, false, false, false, false] rfl rfl (by kernel_rfl) (fun _ _ _ h => h) (Or.inl ⟨by rfl, ?_⟩) ?_ ?_
  rotate_left
  · intro w'
    go_simp
    with_reducible rfl
  rotate_left
  · simp only [Act.put, List.setIfInBounds_toArray, List.set_cons_zero, List.set_cons_succ, i64_w, i32_w]
    rfl
  refine pure_ (i := 28) (N := some 9) (v := ?_) (a' := ?_) #[true, true, true, true, true, true, true, true, false, true, false, false, true, false, true, false, false, true, false, false, false, true, false, true, false, true, false, false, true, false, false] rfl rfl (by kernel_rfl) (fun _ _ _ h => h) (Or.inl ⟨by rfl, ?_⟩) ?_ ?_
  rotate_left
  · intro w'
    go_simp
    with_reducible rfl
  rotate_left
  · simp only [Act.put, List.setIfInBounds_toArray, List.set_cons_zero, List.set_cons_succ, i64_w, i32_w]
    rfl
  refine take_ (i := 8) (N := some 31) (v := ?_) (a' := ?_) #[true, true, true, true, true, true, true, true, true, true, false, false, true, false, true, false, false, true, false, false, false, true, false, true, false, true, false, false, true, false, false] rfl rfl (by kernel_rfl) (fun _ _ _ h => h) (Or.inl ⟨by rfl, ?_⟩) hHeld ?_ ?_
  rotate_left
  · rintro w' ⟨s0, s1, s2⟩
    go_simp
    with_reducible rfl
  rotate_left
  · simp only [Act.put, List.setIfInBounds_toArray, List.set_cons_zero, List.set_cons_succ, i64_w, i32_w]
    rfl
  refine take_ (i := 10) (N := some 33) (v := ?_) (a' := ?_) #[true, true, true, true, true, true, true, true, true, true, true, false, true, false, true, false, false, true, false, false, false, true, false, true, false, true, false, false, true, false, false] rfl rfl (by kernel_rfl) (fun _ _ _ h => h) (Or.inl ⟨by rfl, ?_⟩) hHeld ?_ ?_
  rotate_left
  · rintro w' ⟨s0, s1, s2⟩
    go_simp
    with_reducible rfl
  rotate_left
  · simp only [Act.put, List.setIfInBounds_toArray, List.set_cons_zero, List.set_cons_succ, i64_w, i32_w]
    rfl
  refine pure_ (i := 11) (N := some 34) (v := ?_) (a' := ?_) #[true, true, true, true, true, true, true, true, true, true, true, true, true, false, true, false, false, true, false, false, false, true, false, true, false, true, false, false, true, false, false] rfl rfl (by kernel_rfl) (fun _ _ _ h => h) (Or.inl ⟨by rfl, ?_⟩) ?_ ?_
  rotate_left
  · intro w'
    go_simp
    with_reducible rfl
  rotate_left
  · simp only [Act.put, List.setIfInBounds_toArray, List.set_cons_zero, List.set_cons_succ, i64_w, i32_w]
    rfl
  refine take_ (i := 13) (N := some 36) (v := ?_) (a' := ?_) #[true, true, true, true, true, true, true, true, true, true, true, true, true, true, true, false, false, true, false, false, false, true, false, true, false, true, false, false, true, false, false] rfl rfl (by kernel_rfl) (fun _ _ _ h => h) (Or.inl ⟨by rfl, ?_⟩) hHeld ?_ ?_
  rotate_left
  · rintro w' ⟨s0, s1, s2⟩
    go_simp
    with_reducible rfl
  rotate_left
  · simp only [Act.put, List.setIfInBounds_toArray, List.set_cons_zero, List.set_cons_succ, i64_w, i32_w]
    rfl
  refine take_ (i := 15) (N := some 38) (v := ?_) (a' := ?_) #[true, true, true, true, true, true, true, true, true, true, true, true, true, true, true, true, false, true, false, false, false, true, false, true, false, true, false, false, true, false, false] rfl rfl (by kernel_rfl) (fun _ _ _ h => h) (Or.inl ⟨by rfl, ?_⟩) hHeld ?_ ?_
  rotate_left
  · rintro w' ⟨s0, s1, s2⟩
    go_simp
    with_reducible rfl
  rotate_left
  · simp only [Act.put, List.setIfInBounds_toArray, List.set_cons_zero, List.set_cons_succ, i64_w, i32_w]
    rfl
  refine pure_ (i := 16) (N := some 39) (v := ?_) (a' := ?_) #[true, true, true, true, true, true, true, true, true, true, true, true, true, true, true, true, true, true, false, false, false, true, false, true, false, true, false, false, true, false, false] rfl rfl (by kernel_rfl) (fun _ _ _ h => h) (Or.inl ⟨by rfl, ?_⟩) ?_ ?_
  rotate_left
  · intro w'
    go_simp
    with_reducible rfl
  rotate_left
  · simp only [Act.put, List.setIfInBounds_toArray, List.set_cons_zero, List.set_cons_succ, i64_w, i32_w]
    rfl
  refine take_ (i := 18) (N := some 41) (v := ?_) (a' := ?_) #[true, true, true, true, true, true, true, true, true, true, true, true, true, true, true, true, true, true, true, false, false, true, false, true, false, true, false, false, true, false, false] rfl rfl (by kernel_rfl) (fun _ _ _ h => h) (Or.inl ⟨by rfl, ?_⟩) hHeld ?_ ?_
  rotate_left
  · rintro w' ⟨s0, s1, s2⟩
    go_simp
    with_reducible rfl
  rotate_left
  · simp only [Act.put, List.setIfInBounds_toArray, List.set_cons_zero, List.set_cons_succ, i64_w, i32_w]
    rfl
  refine pure_ (i := 19) (N := some 42) (v := ?_) (a' := ?_) #[true, true, true, true, true, true, true, true, true, true, true, true, true, true, true, true, true, true, true, true, false, true, false, true, false, true, false, false, true, false, false] rfl rfl (by kernel_rfl) (fun _ _ _ h => h) (Or.inl ⟨by rfl, ?_⟩) ?_ ?_
  rotate_left
  · intro w'
    go_simp
    with_reducible rfl
  rotate_left
  · simp only [Act.put, List.setIfInBounds_toArray, List.set_cons_zero, List.set_cons_succ, i64_w, i32_w]
    rfl
  refine pure_ (i := 20) (N := some 43) (v := ?_) (a' := ?_) #[true, true, true, true, true, true, true, true, true, true, true, true, true, true, true, true, true, true, true, true, true, true, false, true, false, true, false, false, true, false, false] rfl rfl (by kernel_rfl) (fun _ _ _ h => h) (Or.inl ⟨by rfl, ?_⟩) ?_ ?_
  rotate_left
  · intro w'
    go_simp
    with_reducible rfl
  rotate_left
  · simp only [Act.put, List.setIfInBounds_toArray, List.set_cons_zero, List.set_cons_succ, i64_w, i32_w]
    rfl
  refine pure_ (i := 29) (N := some 10) (v := ?_) (a' := ?_) #[true, true, true, true, true, true, true, true, true, true, true, true, true, true, true, true, true, true, true, true, true, true, false, true, false, true, false, false, true, true, false] rfl rfl (by kernel_rfl) (fun _ _ _ h => h) (Or.inl ⟨by rfl, ?_⟩) ?_ ?_
  rotate_left
  · intro w'
    go_simp
    with_reducible rfl
  rotate_left
  · simp only [Act.put, List.setIfInBounds_toArray, List.set_cons_zero, List.set_cons_succ, i64_w, i32_w]
    rfl
  refine take_ (i := 22) (N := some 45) (v := ?_) (a' := ?_) #[true, true, true, true, true, true, true, true, true, true, true, true, true, true, true, true, true, true, true, true, true, true, true, true, false, true, false, false, true, true, false] rfl rfl (by kernel_rfl) (fun _ _ _ h => h) (Or.inl ⟨by rfl, ?_⟩) hHeld ?_ ?_
  rotate_left
  · rintro w' ⟨s0, s1, s2⟩
    go_simp
    with_reducible rfl
  rotate_left
  · simp only [Act.put, List.setIfInBounds_toArray, List.set_cons_zero, List.set_cons_succ, i64_w, i32_w]
    rfl
  refine take_ (i := 24) (N := some 47) (v := ?_) (a' := ?_) #[true, true, true, true, true, true, true, true, true, true, true, true, true, true, true, true, true, true, true, true, true, true, true, true, true, true, false, false, true, true, false] rfl rfl (by kernel_rfl) (fun _ _ _ h => h) (Or.inl ⟨by rfl, ?_⟩) hHeld ?_ ?_
  rotate_left
  · rintro w' ⟨s0, s1, s2⟩
    go_simp
    with_reducible rfl
  rotate_left
  · simp only [Act.put, List.setIfInBounds_toArray, List.set_cons_zero, List.set_cons_succ, i64_w, i32_w]
    rfl
  refine take_ (i := 26) (N := some 49) (v := ?_) (a' := ?_) #[true, true, true, true, true, true, true, true, true, true, true, true, true, true, true, true, true, true, true, true, true, true, true, true, true, true, true, false, true, true, false] rfl rfl (by kernel_rfl) (fun _ _ _ h => h) (Or.inl ⟨by rfl, ?_⟩) hHeld ?_ ?_
  rotate_left
  · rintro w' ⟨s0, s1, s2⟩
    go_simp
    with_reducible rfl
  rotate_left
  · simp only [Act.put, List.setIfInBounds_toArray, List.set_cons_zero, List.set_cons_succ, i64_w, i32_w]
    rfl
  refine pure_ (i := 27) (N := some 50) (v := ?_) (a' := ?_) #[true, true, true, true, true, true, true, true, true, true, true, true, true, true, true, true, true, true, true, true, true, true, true, true, true, true, true, true, true, true, false] rfl rfl (by kernel_rfl) (fun _ _ _ h => h) (Or.inl ⟨by rfl, ?_⟩) ?_ ?_
  rotate_left
  · intro w'
    go_simp
    with_reducible rfl
  rotate_left
  · simp only [Act.put, List.setIfInBounds_toArray, List.set_cons_zero, List.set_cons_succ, i64_w, i32_w]
    rfl
  refine pure_ (i := 30) (N := some 11) (v := ?_) (a' := ?_) #[true, true, true, true, true, true, true, true, true, true, true, true, true, true, true, true, true, true, true, true, true, true, true, true, true, true, true, true, true, true, true] rfl rfl (by kernel_rfl) (fun _ _ _ h => h) (Or.inl ⟨by rfl, ?_⟩) ?_ ?_
  rotate_left
  · intro w'
    go_simp
    with_reducible rfl
  rotate_left
  · simp only [Act.put, List.setIfInBounds_toArray, List.set_cons_zero, List.set_cons_succ, i64_w, i32_w]
    rfl
  refine done_ (by kernel_rfl) ?_
  have HSUM := Aside0.mk hsum
  clear hm1 hM1 hfr hu hmd htt hsum
  rcases hcs with rfl | ⟨rfl, hz, hz2, hz3, hz4⟩
  all_goals (
    go_wp2_with (first
      | (go_at_call 48; ((with_reducible refine (range_n A2 c2 nx x a1 fr tt L _ HNX.out HL.out (Kd.C_below HCX.out HB.out) HCC.out HXN.out HXE.out).mono ?_); rintro e w3 ⟨v, rfl, ho, hb⟩; obtain ⟨A3, c3, e_⟩ := Kd.R_slice ho; rw [HNA.out] at e_; subst e_; obtain ⟨F3, hs_⟩ := Sep.newrow (by repeat (first | (with_reducible first | exact HS.out | apply sep_alloc | apply sep_drewN | apply sep_drew) | exact HS.out)) hb (below_size (by repeat (first | (with_reducible first | exact HB.out | apply below_alloc | apply pw_below_drewN | apply below_drew1) | exact HB.out))) ho; have n0_ := Aside0.mk (below_step (by repeat (first | (with_reducible first | exact HB.out | apply below_alloc | apply pw_below_drewN | apply below_drew1) | exact HB.out)) hb); clear HB HS hb ho; have HB := n0_; have HS := Aside0.mk hs_; clear n0_ hs_))
      | (go_at_call 48; ((with_reducible refine (range_n A2 c2 nx x a1 fr md L2 _ HNX.out HL2.out (Kd.C_below HCX.out HB.out) HCC.out HXN.out HXE.out).mono ?_); rintro e w4 ⟨v, rfl, ho, hb⟩; obtain ⟨A4, c4, e_⟩ := Kd.R_slice ho; rw [HNB.out] at e_; subst e_; obtain ⟨F4, hs_⟩ := Sep.newrow (by repeat (first | (with_reducible first | exact HS.out | apply sep_alloc | apply sep_drewN | apply sep_drew) | exact HS.out)) hb (below_size (by repeat (first | (with_reducible first | exact HB.out | apply below_alloc | apply pw_below_drewN | apply below_drew1) | exact HB.out))) ho; have n0_ := Aside0.mk (below_step (by repeat (first | (with_reducible first | exact HB.out | apply below_alloc | apply pw_below_drewN | apply below_drew1) | exact HB.out)) hb); clear HB HS hb ho; have HB := n0_; have HS := Aside0.mk hs_; clear n0_ hs_))
      | (go_at_call 45; ((with_reducible refine (span9_calls A2 c2 nx x sa sb _ _ HNX.out HSP.out HXN.out HXE.out (Kd.C_below HCX.out HB.out) HCC.out).mono ?_); rintro e w5 ⟨rfl, hb⟩; have n0_ := Aside0.mk (below_step (by repeat (first | (with_reducible first | exact HB.out | apply below_alloc | apply pw_below_drewN | apply below_drew1) | exact HB.out)) hb); have n1_ := Aside0.mk (Sep.below (by repeat (first | (with_reducible first | exact HS.out | apply sep_alloc | apply sep_drewN | apply sep_drew) | exact HS.out)) hb); clear HB HS; have HB := n0_; have HS := n1_; clear n0_ n1_ hb)))
    have n0_ := HS.out.drop
    clear HS
    have HS := Aside0.mk n0_
    clear n0_
    go_loopg [18, 76] na (fun kq _ v76 w' => ∃ j : Nat, v76 = .int .i64 (j : Int) ∧ Aside0 (kq + j = na) ∧ Aside0 (Sep w2.heap.size w' [row F3 k52 52 w2.heap.size (.slice A3 na c3) L]) ∧ Aside0 (Below w2.heap.size w2 w'))
    case atStart => exact ⟨0, rfl, ⟨by omega⟩, HS, HB⟩
    case round =>
      clear HS HB
      obtain ⟨j, rfl, HI, HS, HB⟩ := hrel
      by_cases hlt : j < na
      · obtain ⟨k1, rfl⟩ : ∃ n, gk = n + 1 := ⟨gk - 1, by have := HI.out; omega⟩
        have d1b : decide ((j : Int) < (na : Int)) = true := decide_eq_true (by omega)
        have d1n : decide (j < na) = true := decide_eq_true hlt
        have hnx : wrap64 ((j : Int) + 1) = ((j + 1 : Nat) : Int) := by have := HLN.out; rw [w64 (by omega) (by omega)]; simp
        have HX := Aside0.mk hnx
        obtain ⟨ad, e1, hx0, hx1⟩ := at_T52 (Kd.R_reads' (Sep.R HS.out)).2.2 (j : Int) (by omega) (by rw [HNA.out]; omega)
        cases e1
        rw [Int.toNat_natCast] at hx0 hx1
        have hmem := HMEM.out _ (rd52_mem (l := L) (i := j) (by rw [HNA.out]; exact hlt))
        obtain ⟨y, hy⟩ : ∃ y, y = rd_T52 L (j : Int) := ⟨_, rfl⟩
        rw [← hy] at hx0 hx1 hmem
        obtain ⟨y0, hy0⟩ : ∃ y0, y0 = y.f0 := ⟨_, rfl⟩
        obtain ⟨y1, hy1⟩ : ∃ y1, y1 = y.f1 := ⟨_, rfl⟩
        rw [← hy0] at hx0 hmem
        rw [← hy1] at hx1
        have t1 : decide (y0 < sa) = false := decide_eq_false (by omega)
        have t2 : decide (sb < y0) = false := decide_eq_false (by omega)
        have t3 : decide (y0 < fr) = false := decide_eq_false (by omega)
        have t4 : decide (tt < y0) = false := decide_eq_false (by omega)
        have c4 := eq_true hlt
        have c5 := eq_true (show (j : Int) < (na : Int) by omega)
        have c6 := eq_true (show 0 ≤ (j : Int) by omega)
        clear hnx hlt hmem hy hy0 hy1 hcm
        go_wp2_with (first
          | ((with_reducible refine gate_dst (N := 18) rfl ?_); (try (refine gate_guard (by rfl) ?_; dsimp only)); refine box_event ?hg (N := 18) ?hd (cs := #[.int .i64 0, .int .i64 0]) (t := 52) ?hr ?_; (case hd => rfl); (case hg => rfl); (case hr => first | (go_simp; done) | (go_simp; rfl)); intro gq hg w5 hbox hb; have n0_ := Aside0.mk (below_step (by repeat (first | (with_reducible first | exact HB.out | apply below_alloc | apply pw_below_drewN | apply below_drew1) | exact HB.out)) hb); have n1_ := Aside0.mk (Sep.newbox (by repeat (first | (with_reducible first | exact HS.out | apply sep_alloc | apply sep_drewN | apply sep_drew) | exact HS.out)) hb (Nat.le_of_eq hg.symm) (below_size (by repeat (first | (with_reducible first | exact HB.out | apply below_alloc | apply pw_below_drewN | apply below_drew1) | exact HB.out))) hbox); clear HB HS; have HB := n0_; have HS := n1_; clear n0_ n1_ hb hbox hg; have hc0 := Sep.c20 HS.out; have hc1 := Sep.c21 HS.out; have hf0 := Sep.free HS.out 0; have hf1 := Sep.free HS.out 1))
        go_roundg k1
        case measure => omega
        case rel => exact ⟨j + 1, (by first | rfl | rw [HX.out]), ⟨by have := HI.out; omega⟩, ⟨((HS.out.s20 (.int .i64 y0)).s21 (.int .i64 y1)).drop⟩, ⟨below_set (below_set HB.out HS.out.ge) HS.out.ge⟩⟩
      · have d1b : decide ((j : Int) < (na : Int)) = false := decide_eq_false (by omega)
        have d1n : decide (j < na) = false := decide_eq_false hlt
        clear hlt
        have hsum := HSUM.out
        rcases hcm with ⟨hm1, hm2⟩ | ⟨hm1, hm2, hm3⟩
        · go_wp2_with (first
            | (go_at_call 48; ((with_reducible refine (range_n A2 c2 nx x a1 (md + 1) tt L3 _ HNX.out HL3.out (Kd.C_below HCX.out HB.out) HCC.out HXN.out HXE.out).mono ?_); rintro e w3_ ⟨v, rfl, ho, hb⟩; obtain ⟨A5, c5_, e_⟩ := Kd.R_slice ho; rw [HNC.out] at e_; subst e_; obtain ⟨F5, hs_⟩ := Sep.newrow (by repeat (first | (with_reducible first | exact HS.out | apply sep_alloc | apply sep_drewN | apply sep_drew) | exact HS.out)) hb (below_size (by repeat (first | (with_reducible first | exact HB.out | apply below_alloc | apply pw_below_drewN | apply below_drew1) | exact HB.out))) ho; have n0_ := Aside0.mk (below_step (by repeat (first | (with_reducible first | exact HB.out | apply below_alloc | apply pw_below_drewN | apply below_drew1) | exact HB.out)) hb); clear HB HS hb ho; have HB := n0_; have HS := Aside0.mk hs_; clear n0_ hs_)))
          go_ret
          exact ⟨by first | rfl | simp, below_step HBW.out HB.out⟩
        · go_wp2
          go_ret
          exact ⟨by first | rfl | simp, below_step HBW.out HB.out⟩)
end Go.Proofs.Ythkpnnbjcendcaa.X

