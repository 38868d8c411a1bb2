/- block.Put and the reference's, walked. -/
import Derived.Test.YthkpnnbjcendcaaPbbQc
import Derived.Test.YthkpnnbjcendcaaSsmQc
set_option linter.unusedVariables false
set_option linter.unusedSimpArgs false
open Go.RowKit Go.Proofs.Ythkpnnbjcendcaa.X Go.Proofs.Ythkpnnbjcendcaa.Pl Go.Proofs.Ythkpnnbjcendcaa.Sp Go.Proofs.Ythkpnnbjcendcaa.Pure Go.Proofs.YthkpnnbjcendcaaW.PrintWords Go.Proofs.YthkpnnbjcendcaaW.PrintLast Go.Proofs.YthkpnnbjcendcaaW.PrintMore
namespace Go.Proofs.Ythkpnnbjcendcaa.Sc
theorem bright_calls (A0 : Option Addr) (c0 : Nat) (l0 : List S109) (b : Bool) (w : World) (hb : rightC l0 = b) (hr0 : Kd.C k109 w A0 l0.length l0) (hc0 : l0.length ≤ c0) (hl : l0.length < 1000000000) (hE : ∀ c ∈ l0, c.f1.length < 1000000000) :
    Calls Try.prog 55 #[.slice A0 l0.length c0] w fun e w' => e = .returned (.bool b) ∧ Below w.heap.size w w' := by
  subst hb
  obtain ⟨K, hK⟩ := bright_ev l0 hl hE
  exact block_Right.calls K A0 c0 l0 _ w hr0 hc0 (hK K (Nat.le_refl _))
theorem oput_n (A0 : Option Addr) (c0 m : Nat) (b : List Int) (n : Nat) (r : List Int) (w : World) (hm : b.length = m) (hr : b ++ varint n = r) (hr0 : Kd.C (Kd.int .u8) w A0 m b) (hl : m ≤ 100000000) (hn : n < 2 ^ 64) :
    Calls Try.prog 65 #[.slice A0 m c0, .int .u64 (n : Int)] w fun e w' => ∃ v, e = .returned v ∧ Kd.R (Kd.int .u8) 5 w' w.heap.size (fun _ => True) v r ∧ Below w.heap.size w w' := by
  subst hm hr
  exact oput_calls A0 c0 b n w hr0 hl hn
theorem otext_n (A0 : Option Addr) (c0 m : Nat) (b p : List Int) (s : ByteArray) (r : List Int) (w : World) (hm : b.length = m) (hs : s = strOfNums p) (hr : b ++ varint p.length ++ p = r) (hr0 : Kd.C (Kd.int .u8) w A0 m b) (hc0 : m ≤ c0) (hl : m ≤ 50000000) (hp : p.length ≤ 1000000) (hb : Byt p) :
    Calls Try.prog 87 #[.slice A0 m c0, .string s] w fun e w' => ∃ v, e = .returned v ∧ Kd.R (Kd.int .u8) 5 w' w.heap.size (fun _ => True) v r ∧ Below w.heap.size w w' := by
  subst hm hs hr
  exact octs_PutText.calls A0 c0 b _ _ w hr0 hc0 (otext_f hl hp hb)
theorem seal_n (A0 : Option Addr) (c0 m : Nat) (b r : List Int) (w : World) (hm : b.length = m) (hr : sealL b = r) (hr0 : Kd.C (Kd.int .u8) w A0 m b) (hc0 : m ≤ c0) (hl : m ≤ 10000000) (hb : Byt b) :
    Calls Try.prog 88 #[.slice A0 m c0] w fun e w' => ∃ v, e = .returned v ∧ Kd.R (Kd.int .u8) 5 w' w.heap.size (fun _ => True) v r ∧ Below w.heap.size w w' := by
  subst hm hr
  exact seal_Put.calls A0 c0 b _ w hr0 hc0 (seal_f hl hb)
set_option maxHeartbeats 16000000 in
set_option maxRecDepth 100000 in
theorem bput_calls (A0 : Option Addr) (c0 : Nat) (l0 : List S109) (O9 : List Int) (q9 : Int) (w : World) (hO : bputR l0 = (O9, q9)) (hr0 : Kd.C k109 w A0 l0.length l0) (hc0 : l0.length ≤ c0) (hl : l0.length < 1000000000) (hE : ∀ c ∈ l0, c.f1.length < 1000000000) (hf : ∀ c ∈ l0, fitP c.f1) :
    Calls Try.prog 53 #[.slice A0 l0.length c0] w fun e w' => ∃ v, e = .returned (.tuple #[v, .int .i64 q9]) ∧ Kd.R (Kd.int .u8) 5 w' w.heap.size (fun _ => True) v O9 ∧ Below w.heap.size w w' := by
  have HB := Aside0.mk (Below.refl w.heap.size w)
  have HS := Aside0.mk (Sep.nil w.heap.size w)
  have HR := Aside0.mk hr0
  have HC := Aside0.mk hc0
  have HL := Aside0.mk hl
  have HE := Aside0.mk hE
  have HF := Aside0.mk hf
  cases hrt : rightC l0
  · have HRT := Aside0.mk hrt
    have hE9 : bputR l0 = ([], 1) := by unfold bputR; rw [hrt]; rfl
    rw [hE9] at hO
    injection hO with h1 h2
    subst h1 h2
    clear hr0 hc0 hl hE hf hrt hE9
    go_enter Try.func53, Try.ntmps53
    go_wp2_with (first
      | (go_at_call 55; ((with_reducible refine (bright_calls A0 c0 l0 false _ HRT.out (Kd.C_below HR.out HB.out) HC.out HL.out HE.out).mono ?_); rintro e w1 ⟨rfl, hb⟩; have n0_ := Aside0.mk (below_step (by repeat (first | (with_reducible first | exact HB.out | apply below_alloc | apply pw_below_drewN | apply below_drew1) | exact HB.out)) hb); have n1_ := Aside0.mk (Sep.below (by repeat (first | (with_reducible first | exact HS.out | apply sep_alloc | apply sep_drewN | apply sep_drew) | exact HS.out)) hb); clear HB HS; have HB := n0_; have HS := n1_; clear n0_ n1_ hb)))
    go_ret2
    exact ⟨_, rfl, Kd.R_nil _ _ _ _ _, HB.out⟩
  · have HRT := Aside0.mk hrt
    have hE9 : bputR l0 = (sealL (bodyC l0), 0) := by unfold bputR; rw [hrt]; rfl
    rw [hE9] at hO
    injection hO with h1 h2
    obtain ⟨hok, hn1, hn2⟩ := rightC_all hrt
    have HOK := Aside0.mk hok
    have HN := Aside0.mk hn2
    have HO9 := Aside0.mk h1
    have hbl := bodyC_len hrt
    have HBL := Aside0.mk hbl
    have hcv : IntKind.u64.wrap (l0.length : Int) = (l0.length : Int) := w_u64 (by omega) (by omega)
    subst h2
    clear hr0 hc0 hl hE hf hrt hE9 h1 hok hn1 hbl
    go_enter Try.func53, Try.ntmps53
    go_wp2_with (first
      | (go_at_call 55; ((with_reducible refine (bright_calls A0 c0 l0 true _ HRT.out (Kd.C_below HR.out HB.out) HC.out HL.out HE.out).mono ?_); rintro e w1 ⟨rfl, hb⟩; have n0_ := Aside0.mk (below_step (by repeat (first | (with_reducible first | exact HB.out | apply below_alloc | apply pw_below_drewN | apply below_drew1) | exact HB.out)) hb); have n1_ := Aside0.mk (Sep.below (by repeat (first | (with_reducible first | exact HS.out | apply sep_alloc | apply sep_drewN | apply sep_drew) | exact HS.out)) hb); clear HB HS; have HB := n0_; have HS := n1_; clear n0_ n1_ hb))
      | (go_at_call 65; ((with_reducible refine (oput_n none 0 0 [] l0.length (varint l0.length) _ rfl rfl (Kd.C_nil _ _) (by decide) (by have := HN.out; omega)).mono ?_); rintro e w2 ⟨v, rfl, ho, hb⟩; obtain ⟨A2, c2, e_⟩ := Kd.R_slice ho; subst e_; obtain ⟨F2, hs_⟩ := Sep.newrow (by repeat (first | (with_reducible first | exact HS.out | apply sep_alloc | apply sep_drewN | apply sep_drew) | exact HS.out)) hb (below_size (by repeat (first | (with_reducible first | exact HB.out | apply below_alloc | apply pw_below_drewN | apply below_drew1) | exact HB.out))) ho; have n0_ := Aside0.mk (below_step (by repeat (first | (with_reducible first | exact HB.out | apply below_alloc | apply pw_below_drewN | apply below_drew1) | exact HB.out)) hb); clear HB HS hb ho; have HB := n0_; have HS := Aside0.mk hs_; clear n0_ hs_)))
    go_loopg [4, 6, 7, 8, 18] l0.length (fun kq v4 _ _ _ v18 w' => ∃ (i : Nat) (O : List Int) (F : Nat → Prop), v18 = .int .i64 (i : Int) ∧ Aside0 (kq + i = l0.length ∧ O = varint l0.length ++ (l0.take i).flatMap chB) ∧ Aside0 (Sep w.heap.size w' [row F (Kd.int .u8) 5 w.heap.size v4 O]) ∧ Aside0 (Below w.heap.size w w'))
    case atStart => exact ⟨0, varint l0.length, _, rfl, ⟨by omega, by simp⟩, HS, HB⟩
    case round =>
      clear HS HB
      obtain ⟨i, O, F, rfl, HI, HS, HB⟩ := hrel
      obtain ⟨Ao, co, eo⟩ := Kd.R_slice (Sep.R HS.out)
      by_cases hlt : i < l0.length
      · subst eo
        obtain ⟨k1, rfl⟩ : ∃ q, gk = q + 1 := ⟨gk - 1, by have := HI.out.1; omega⟩
        have d1b : decide ((i : Int) < (l0.length : Int)) = true := decide_eq_true (by omega)
        have d1n : decide (i < l0.length) = true := decide_eq_true hlt
        have hnx : wrap64 ((i : Int) + 1) = ((i + 1 : Nat) : Int) := by have := HL.out; rw [w64 (by omega) (by omega)]; simp
        obtain ⟨ad, A1, c1, e1, hx0, hx1, hl1, hC1⟩ := at_T109 HR.out (i : Int) (by omega) (by omega)
        cases e1
        rw [Int.toNat_natCast] at hx0 hx1
        replace hx0 := (HB.out.cell (World.block_lt_of_cell? w _ hx0)).trans hx0
        replace hx1 := (HB.out.cell (World.block_lt_of_cell? w _ hx1)).trans hx1
        have hrd := rd109_at l0 i hlt
        rw [hrd] at hx0 hx1 hl1 hC1
        have ho1 := HOK.out l0[i] (List.getElem_mem hlt)
        have hf1 := HF.out l0[i] (List.getElem_mem hlt)
        have hch : (l0.take (i + 1)).flatMap chB = (l0.take i).flatMap chB ++ chB l0[i] := by
          rw [List.take_succ_eq_append_getElem hlt, List.flatMap_append, List.flatMap_cons, List.flatMap_nil, List.append_nil]
        have hfl := flat_len (l0.take i) (fun c hc => HOK.out c (List.mem_of_mem_take hc))
        rw [List.length_take] at hfl
        have hvl := (varint_len64 (n := l0.length) (by have := HN.out; omega)).2
        have hOL : O.length ≤ 5000000 := by rw [HI.out.2, List.length_append]; have := HN.out; omega
        obtain ⟨c, hc⟩ : ∃ c, c = l0[i] := ⟨_, rfl⟩
        rw [← hc] at hx0 hx1 hl1 hC1 ho1 hf1 hch
        obtain ⟨x0, hx⟩ : ∃ m : Nat, c.f0 = (m : Int) := ⟨c.f0.toNat, by have := ho1.id0; omega⟩
        obtain ⟨ps, hps⟩ : ∃ p, p = c.f1 := ⟨_, rfl⟩
        obtain ⟨n1, hn1⟩ : ∃ n, n = ps.length := ⟨_, rfl⟩
        obtain ⟨P, hP⟩ : ∃ P, P = putB ps := ⟨_, rfl⟩
        obtain ⟨nP, hnP⟩ : ∃ n, n = P.length := ⟨_, rfl⟩
        have hpr : putR ps = (P, 0) := by rw [hP, hps]; exact putR_ok ho1
        have hPl : nP ≤ 20000 := by rw [hnP, hP, hps]; exact putB_len ho1.n1
        have hxl : x0 < 4096 := by have := ho1.id1; omega
        obtain ⟨O1, hO1⟩ : ∃ O1, O ++ varint x0 = O1 := ⟨_, rfl⟩
        obtain ⟨n9, hn9⟩ : ∃ n, O1.length = n := ⟨_, rfl⟩
        have hO1l : n9 ≤ 5000010 := by rw [← hn9, ← hO1, List.length_append]; have := (varint_len64 (n := x0) (by omega)).2; omega
        obtain ⟨O2, hO2⟩ : ∃ O2, O1 ++ varint P.length ++ P = O2 := ⟨_, rfl⟩
        have HO2 := Aside0.mk (show O2 = varint l0.length ++ (l0.take (i + 1)).flatMap chB by
          rw [hch, ← hO2, ← hO1, HI.out.2, hP, hps]
          unfold chB
          rw [hx, Int.toNat_natCast]
          simp only [List.append_assoc])
        rw [hx] at hx0
        rw [← hps] at hx1 hl1 hC1 hf1
        rw [← hn1] at hx1 hl1
        have hcw : IntKind.u64.wrap (x0 : Int) = (x0 : Int) := w_u64 (by omega) (by omega)
        obtain ⟨sP, hsP⟩ : ∃ s, s = strOfNums P := ⟨_, rfl⟩
        have HSP := Aside0.mk hsP
        have HX := Aside0.mk hnx
        have HC1 := Aside0.mk hC1
        have HL1 := Aside0.mk hl1
        have HN1 := Aside0.mk hn1.symm
        have HNL := Aside0.mk (show n1 < 4611686018427387904 by have := ho1.n1; rw [hn1, hps]; omega)
        have HF1 := Aside0.mk hf1
        have HP1 := Aside0.mk (show (putR ps).1 = P by rw [hpr])
        have HP2 := Aside0.mk (show (putR ps).2 = 0 by rw [hpr])
        have HPN := Aside0.mk hnP.symm
        have HPL := Aside0.mk hPl
        have HPB := Aside0.mk (show Byt P from hP ▸ putB_byt ps)
        have HXL := Aside0.mk hxl
        have HO1 := Aside0.mk hO1
        have HN9 := Aside0.mk hn9
        have HO1L := Aside0.mk hO1l
        have HOO2 := Aside0.mk hO2
        have HOL := Aside0.mk hOL
        have c4 := eq_true hlt
        have c5 := eq_true (show (i : Int) < (l0.length : Int) by omega)
        have c6 := eq_true (show 0 ≤ (i : Int) by omega)
        clear hnx hlt hrd hch hfl hvl hOL hc ho1 hf1 hx hps hn1 hP hnP hpr hPl hxl hO1 hn9 hO1l hO2 hsP hC1 hl1
        go_wp2_with (first
          | ((with_reducible refine gate_dst (N := 6) rfl ?_); (try (refine gate_guard (by rfl) ?_; dsimp only)); refine box_event ?hg (N := 6) ?hd (cs := #[.int .i64 0, .slice none 0 0]) (t := 109) ?hr ?_; (case hd => rfl); (case hg => rfl); (case hr => first | (go_simp; done) | (go_simp; rfl)); intro gq hg w5 hbox hb; have n0_ := Aside0.mk (below_step (by repeat (first | (with_reducible first | exact HB.out | apply below_alloc | apply pw_below_drewN | apply below_drew1) | exact HB.out)) hb); have n1_ := Aside0.mk (Sep.newbox (by repeat (first | (with_reducible first | exact HS.out | apply sep_alloc | apply sep_drewN | apply sep_drew) | exact HS.out)) hb (Nat.le_of_eq hg.symm) (below_size (by repeat (first | (with_reducible first | exact HB.out | apply below_alloc | apply pw_below_drewN | apply below_drew1) | exact HB.out))) hbox); clear HB HS; have HB := n0_; have HS := n1_; clear n0_ n1_ hb hbox hg; have hc0 := Sep.c20 HS.out; have hc1 := Sep.c21 HS.out; have hf0 := Sep.free HS.out 0; have hf1 := Sep.free HS.out 1)
          | (go_at_call 29; ((with_reducible refine (sput_n A1 c1 n1 ps P 0 _ HN1.out HP1.out HP2.out (Kd.C_below HC1.out (below_set (j := 1) (v := .slice A1 n1 c1) (below_set (j := 0) (v := .int .i64 (x0 : Int)) HB.out HS.out.ge) HS.out.ge)) HL1.out HNL.out HF1.out).mono ?_); rintro e w8 ⟨v, rfl, ho, hb⟩; have n0_ := Aside0.mk (below_set (j := 1) (v := .slice A1 n1 c1) (below_set (j := 0) (v := .int .i64 (x0 : Int)) HB.out HS.out.ge) HS.out.ge); have n1_ := Aside0.mk ((HS.out.s20 (.int .i64 (x0 : Int))).s21 (.slice A1 n1 c1)); (try clear HB HS); have HB := n0_; have HS := n1_; clear n0_ n1_; clear hc0 hc1 hf0 hf1; obtain ⟨Ap, cp, e_⟩ := Kd.R_slice ho; rw [HPN.out] at e_; subst e_; obtain ⟨Fp, hs_⟩ := Sep.newrow (by repeat (first | (with_reducible first | exact HS.out | apply sep_alloc | apply sep_drewN | apply sep_drew) | exact HS.out)) hb (below_size (by repeat (first | (with_reducible first | exact HB.out | apply below_alloc | apply pw_below_drewN | apply below_drew1) | exact HB.out))) ho; have n0_ := Aside0.mk (below_step (by repeat (first | (with_reducible first | exact HB.out | apply below_alloc | apply pw_below_drewN | apply below_drew1) | exact HB.out)) hb); clear HB HS hb ho; have HB := n0_; have HS := Aside0.mk hs_; clear n0_ hs_)))
        go_wp2
        refine start_ (n := 9) (S := fun w' => w'.cell? ⟨gq, 0, none⟩ = some (.int .i64 (x0 : Int)) ∧ (convert 24 9 (.slice Ap nP cp)).run Try.prog w' = .ok (.string sP) w') (ds := []) #[false, false, false, false, false, false, false, false, false] (by kernel_rfl) rfl rfl ⟨Sep.c20 (sep_drew HS.out.p2), (by rw [HSP.out]; exact own_string Try.underlying24 Try.underlying5 Try.underlying9 (Kd.own_of_R (Sep.R (sep_drew HS.out))))⟩ (fun hHeld => ?_)
        have n0_ := Aside0.mk (below_drew HB.out)
        have n1_ := Aside0.mk (sep_drew HS.out)
        clear HB HS
        have HB := n0_
        have HS := n1_
        clear n0_ n1_
        generalize (World.drew w8) = wd_ at HB HS hHeld ⊢
        refine pure_ (i := 0) (N := some 30) (v := ?_) (a' := ?_) #[true, false, false, false, false, false, false, false, false] rfl rfl (by kernel_rfl) (fun _ _ _ h => h) (Or.inl ⟨by rfl, ?_⟩) ?_ ?_
        rotate_left
        · intro w'
          go_simp
          with_reducible rfl
        rotate_left
        · simp only [Act.put, List.setIfInBounds_toArray, List.set_cons_zero, List.set_cons_succ, i64_w, i32_w]
          rfl
        refine pure_ (i := 1) (N := some 31) (v := ?_) (a' := ?_) #[true, true, false, false, false, false, false, false, false] rfl rfl (by kernel_rfl) (fun _ _ _ h => h) (Or.inl ⟨by rfl, ?_⟩) ?_ ?_
        rotate_left
        · intro w'
          go_simp
          with_reducible rfl
        rotate_left
        · simp only [Act.put, List.setIfInBounds_toArray, List.set_cons_zero, List.set_cons_succ, i64_w, i32_w]
          rfl
        refine pure_ (i := 5) (N := some 35) (v := ?_) (a' := ?_) #[true, true, false, false, false, true, false, false, false] rfl rfl (by kernel_rfl) (fun _ _ _ h => h) (Or.inl ⟨by rfl, ?_⟩) ?_ ?_
        rotate_left
        · intro w'
          go_simp
          with_reducible rfl
        rotate_left
        · simp only [Act.put, List.setIfInBounds_toArray, List.set_cons_zero, List.set_cons_succ, i64_w, i32_w]
          rfl
        refine take_ (i := 2) (N := some 32) (v := ?_) (a' := ?_) #[true, true, true, false, false, true, false, false, false] rfl rfl (by kernel_rfl) (fun _ _ _ h => h) (Or.inl ⟨by rfl, ?_⟩) hHeld ?_ ?_
        rotate_left
        · rintro w' ⟨s0, s1⟩
          go_simp
          with_reducible rfl
        rotate_left
        · simp only [Act.put, List.setIfInBounds_toArray, List.set_cons_zero, List.set_cons_succ, i64_w, i32_w]
          rfl
        refine pure_ (i := 3) (N := some 33) (v := ?_) (a' := ?_) #[true, true, true, true, false, true, false, false, false] rfl rfl (by kernel_rfl) (fun _ _ _ h => h) (Or.inl ⟨by rfl, ?_⟩) ?_ ?_
        rotate_left
        · intro w'
          go_simp
          with_reducible rfl
        rotate_left
        · simp only [Act.put, List.setIfInBounds_toArray, List.set_cons_zero, List.set_cons_succ, i64_w, i32_w]
          rfl
        refine take_ (i := 6) (N := some 36) (v := ?_) (a' := ?_) #[true, true, true, true, false, true, true, false, false] rfl rfl (by kernel_rfl) (fun _ _ _ h => h) (Or.inl ⟨by rfl, ?_⟩) hHeld ?_ ?_
        rotate_left
        · rintro w' ⟨s0, s1⟩
          go_simp
          with_reducible rfl
        rotate_left
        · simp only [Act.put, List.setIfInBounds_toArray, List.set_cons_zero, List.set_cons_succ, i64_w, i32_w]
          rfl
        refine one_ (i := 4) (N := some 34) #[true, true, true, true, true, true, true, false, false] rfl rfl (by kernel_rfl) (by decide) (fun K hK => ?_)
        refine goes_ Try.func65 (by kernel_rfl) rfl #[.slice Ao O.length co, .int .u64 (x0 : Int)] (by rfl) rfl rfl (by first | (simp only [List.map_toArray, List.map_cons, List.map_nil]; done) | (simp only [List.map_toArray, List.map_cons, List.map_nil]; rfl) | rfl) ?_; with_reducible refine (oput_n Ao co O.length O x0 O1 _ rfl HO1.out (Kd.R_reads' (Sep.R HS.out.p3)).2.2 (by have := HOL.out; omega) (by have := HXL.out; omega)).mono ?_; rintro e w9 ⟨v, rfl, ho, hb⟩; refine ⟨_, rfl, ?_⟩
        obtain ⟨A8, c8, e_⟩ := Kd.R_slice ho; rw [HN9.out] at e_; subst e_; obtain ⟨F8, hs_⟩ := Sep.newrow (by repeat (first | (with_reducible first | exact HS.out | apply sep_alloc | apply sep_drewN | apply sep_drew) | exact HS.out)) hb (below_size (by repeat (first | (with_reducible first | exact HB.out | apply below_alloc | apply pw_below_drewN | apply below_drew1) | exact HB.out))) ho; have n0_ := Aside0.mk (below_step (by repeat (first | (with_reducible first | exact HB.out | apply below_alloc | apply pw_below_drewN | apply below_drew1) | exact HB.out)) hb); clear HB HS hb ho; have HB := n0_; have HS := Aside0.mk hs_; clear n0_ hs_
        refine hK.out _ _ ⟨Sep.c20 HS.out.p3, (by rw [HSP.out]; exact own_string Try.underlying24 Try.underlying5 Try.underlying9 (Kd.own_of_R (Sep.R HS.out.p2)))⟩ (fun hHeld => ?_)
        clear hK K
        refine norm_ (a' := ?_) ?_ ?_
        rotate_left
        · show Act.put _ (some 34) _ = _
          simp only [Act.put, List.setIfInBounds_toArray, List.set_cons_zero, List.set_cons_succ, i64_w, i32_w]
          rfl
        refine one_ (i := 7) (N := some 37) #[true, true, true, true, true, true, true, true, false] rfl rfl (by kernel_rfl) (by decide) (fun K hK => ?_)
        refine goes_ Try.func87 (by kernel_rfl) rfl #[.slice A8 n9 c8, .string sP] (by rfl) rfl rfl (by first | (simp only [List.map_toArray, List.map_cons, List.map_nil]; done) | (simp only [List.map_toArray, List.map_cons, List.map_nil]; rfl) | rfl) ?_; with_reducible refine (otext_n A8 c8 n9 O1 P sP O2 _ HN9.out HSP.out HOO2.out (by have h := (Kd.R_reads' (Sep.R HS.out)).2.2; rw [HN9.out] at h; exact h) (Kd.R_reads' (Sep.R HS.out)).2.1 (by have := HO1L.out; omega) (by rw [HPN.out]; have := HPL.out; omega) HPB.out).mono ?_; rintro e w10 ⟨v, rfl, ho, hb⟩; refine ⟨_, rfl, ?_⟩
        obtain ⟨A9, c9, e_⟩ := Kd.R_slice ho; subst e_; obtain ⟨F9, hs_⟩ := Sep.newrow (by repeat (first | (with_reducible first | exact HS.out | apply sep_alloc | apply sep_drewN | apply sep_drew) | exact HS.out)) hb (below_size (by repeat (first | (with_reducible first | exact HB.out | apply below_alloc | apply pw_below_drewN | apply below_drew1) | exact HB.out))) ho; have n0_ := Aside0.mk (below_step (by repeat (first | (with_reducible first | exact HB.out | apply below_alloc | apply pw_below_drewN | apply below_drew1) | exact HB.out)) hb); clear HB HS hb ho; have HB := n0_; have HS := Aside0.mk hs_; clear n0_ hs_
        refine hK.out _ _ ⟨Sep.c20 HS.out.p4, (by rw [HSP.out]; exact own_string Try.underlying24 Try.underlying5 Try.underlying9 (Kd.own_of_R (Sep.R HS.out.p3)))⟩ (fun hHeld => ?_)
        clear hK K
        refine norm_ (a' := ?_) ?_ ?_
        rotate_left
        · show Act.put _ (some 37) _ = _
          simp only [Act.put, List.setIfInBounds_toArray, List.set_cons_zero, List.set_cons_succ, i64_w, i32_w]
          rfl
        refine pure_ (i := 8) (N := some 4) (v := ?_) (a' := ?_) #[true, true, true, true, true, true, true, true, true] rfl rfl (by kernel_rfl) (fun _ _ _ h => h) (Or.inl ⟨by rfl, ?_⟩) ?_ ?_
        rotate_left
        · intro w'
          go_simp
          with_reducible rfl
        rotate_left
        · simp only [Act.put, List.setIfInBounds_toArray, List.set_cons_zero, List.set_cons_succ, i64_w, i32_w]
          rfl
        refine done_ (by kernel_rfl) ?_
        go_wp2
        go_roundg k1
        case measure => omega
        case rel => exact ⟨i + 1, O2, _, (by first | rfl | rw [HX.out]), ⟨by have := HI.out.1; omega, HO2.out⟩, ⟨HS.out.drop2.drop2.drop2.drop2⟩, HB⟩
      · have d1b : decide ((i : Int) < (l0.length : Int)) = false := decide_eq_false (by omega)
        have d1n : decide (i < l0.length) = false := decide_eq_false hlt
        have hOE : O = bodyC l0 := by rw [HI.out.2, List.take_of_length_le (by omega)]; rfl
        have HOE := Aside0.mk hOE
        subst eo
        clear hlt hOE
        go_wp2_with (first
          | (go_at_call 88; ((with_reducible refine (seal_n Ao co O.length O O9 _ rfl (by rw [HOE.out]; exact HO9.out) (Kd.R_reads' (Sep.R HS.out)).2.2 (Kd.R_reads' (Sep.R HS.out)).2.1 (by rw [HOE.out]; have := HBL.out; omega) (by rw [HOE.out]; exact bodyC_byt _)).mono ?_); rintro e w3 ⟨v, rfl, ho, hb⟩; obtain ⟨A3, c3, e_⟩ := Kd.R_slice ho; subst e_; obtain ⟨F3, hs_⟩ := Sep.newrow (by repeat (first | (with_reducible first | exact HS.out | apply sep_alloc | apply sep_drewN | apply sep_drew) | exact HS.out)) hb (below_size (by repeat (first | (with_reducible first | exact HB.out | apply below_alloc | apply pw_below_drewN | apply below_drew1) | exact HB.out))) ho; have n0_ := Aside0.mk (below_step (by repeat (first | (with_reducible first | exact HB.out | apply below_alloc | apply pw_below_drewN | apply below_drew1) | exact HB.out)) hb); clear HB HS hb ho; have HB := n0_; have HS := Aside0.mk hs_; clear n0_ hs_)))
        go_ret2
        exact ⟨_, rfl, Kd.R_mono (Sep.R HS.out) (fun _ _ => trivial), HB.out⟩
end Go.Proofs.Ythkpnnbjcendcaa.Sc

