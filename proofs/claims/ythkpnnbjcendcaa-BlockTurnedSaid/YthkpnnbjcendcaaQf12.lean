/- What the law leans on, part 12: XStBlockTurned, Pbc, Pbv, PureBlockTurned. -/
import Derived.Test.YthkpnnbjcendcaaQf11
import Derived.Shelf.Abstract
import Derived.Lib.SliceRun
import Derived.Laws.BitsAllLaws
section
/- The plain statement of BlockTurned, over numbers and lists. -/
namespace Go.Proofs.Ythkpnnbjcendcaa.X
open Go.RowKit Go.Proofs.YthkpnnbjcendcaaW.PrintWords Go.Proofs.YthkpnnbjcendcaaW.PrintLast
def marigraphlaw09_BlockTurned.Pure : Prop := ∀ (l0 : List (S109)) (a1 : Int) (a2 : Int) (l3 : List Int), l0.length * 32 ≤ 140737488351232 → (∀ y ∈ l0, (Lit.int .i64 y.f0).wf = true ∧ y.f1.length * 16 ≤ 140737488351232 ∧ (∀ z ∈ y.f1, (Lit.int .i64 z.f0).wf = true ∧ (Lit.int .i64 z.f1).wf = true)) → (Lit.int .u16 a1).wf = true → (Lit.int .u8 a2).wf = true → l3.length * 1 ≤ 140737488351232 → (∀ y ∈ l3, (Lit.int .u8 y).wf = true) → ∃ k, marigraphlaw09_BlockTurned.f k l0 a1 a2 l3 = some true
end Go.Proofs.Ythkpnnbjcendcaa.X
end
section
/- Layer 9 as plain functions: few, Cut, Span, Range, Same. -/
set_option linter.unusedVariables false
set_option linter.unusedSimpArgs false
open Go.RowKit Go.Proofs.Ythkpnnbjcendcaa.X Go.Proofs.Ythkpnnbjcendcaa.Pl Go.Proofs.YthkpnnbjcendcaaW.PrintWords Go.Proofs.YthkpnnbjcendcaaW.PrintLast Go.Proofs.YthkpnnbjcendcaaW.PrintMore
namespace Go.Proofs.Ythkpnnbjcendcaa.Pure
theorem shown9_ev : Ev (fun k => marigraphlaw09_shown.f k) true := Ev.of (fun k => marigraphlaw09_shown.mono k) (k := 30) (by decide +kernel)

theorem rdc109 (l : List S109) (i : Nat) (h : i < l.length) : rd_T109 l (i : Int) = l[i] := by
  unfold rd_T109; rw [Int.toNat_natCast]; exact getD_lt l i _ h

/-! ### few -/
theorem few_from (l : List S109) (hl : l.length < 4398046511104) (hE : ∀ c ∈ l, c.f1.length < 9223372036854775807) (d : Nat) : ∀ (i : Nat) (left : Int), l.length - i = d → i ≤ l.length → i ≤ 210 → 0 ≤ left → left ≤ 6000 →
    ∃ n, i ≤ n ∧ n ≤ 210 ∧ (∀ c ∈ (l.take n).drop i, c.f1.length ≤ 1100) ∧ ((((l.take n).drop i).flatMap (·.f1)).length : Int) ≤ left ∧ Ev (fun k => marigraphlaw09_few.l0 k (l.take i) left l (l.length : Int) (i : Int)) (l.take n) := by
  have hz : ∀ (i : Nat) (left : Int), i ≤ 210 → 0 ≤ left → (∀ k, marigraphlaw09_few.l0 (k + 1) (l.take i) left l (l.length : Int) (i : Int) = some (l.take i)) →
      ∃ n, i ≤ n ∧ n ≤ 210 ∧ (∀ c ∈ (l.take n).drop i, c.f1.length ≤ 1100) ∧ ((((l.take n).drop i).flatMap (·.f1)).length : Int) ≤ left ∧ Ev (fun k => marigraphlaw09_few.l0 k (l.take i) left l (l.length : Int) (i : Int)) (l.take n) := by
    intro i left h1 h2 h3
    have e : (l.take i).drop i = [] := List.drop_eq_nil_of_le (by rw [List.length_take]; omega)
    exact ⟨i, Nat.le_refl _, h1, (by rw [e]; intro c hc; cases hc), (by rw [e]; simpa using h2), ev_stop h3⟩
  induction d with
  | zero =>
    intro i left hd hi h210 h0 h1
    exact hz i left h210 h0 fun k => by rw [marigraphlaw09_few.l0, if_neg (by omega)]
  | succ d ih =>
    intro i left hd hi h210 h0 h1
    have hlt : i < l.length := by omega
    have hmn := @mn_le left 1100
    by_cases c1 : i ≥ 210
    · exact hz i left h210 h0 fun k => by rw [marigraphlaw09_few.l0, if_pos (by omega), if_pos (by omega), if_pos (by omega), if_pos (by omega)]
    · by_cases c2 : (l[i].f1.length : Int) > mn left 1100
      · exact hz i left h210 h0 fun k => by rw [marigraphlaw09_few.l0, if_pos (by omega), if_pos (by omega), if_pos (by omega), if_neg (by omega), rdc109 l i hlt, if_pos c2]
      · have hw : wrap64 ((i : Int) + 1) = ((i + 1 : Nat) : Int) := by rw [w64 (by omega) (by omega)]; omega
        have hw2 : wrap64 (left - (l[i].f1.length : Int)) = left - (l[i].f1.length : Int) := w64 (by omega) (by omega)
        have ht : l.take i ++ [(⟨l[i].f0, l[i].f1⟩ : S109)] = l.take (i + 1) := (List.take_succ_eq_append_getElem hlt).symm
        obtain ⟨n, g1, g2, g3, g4, g5⟩ := ih (i + 1) (left - (l[i].f1.length : Int)) (by omega) (by omega) (by omega) (by omega) (by omega)
        have hdr : (l.take n).drop i = l[i] :: (l.take n).drop (i + 1) := by
          rw [List.drop_eq_getElem_cons (by rw [List.length_take]; omega), List.getElem_take]
        refine ⟨n, by omega, g2, ?_, ?_, ?_⟩
        · rw [hdr]
          intro c hc
          rcases List.mem_cons.1 hc with rfl | hc
          · omega
          · exact g3 c hc
        · rw [hdr, List.flatMap_cons, List.length_append]
          omega
        · refine ev_succ (fun k => by rw [marigraphlaw09_few.l0]) (ev_pos (by omega) (ev_pos (by omega) (ev_pos (by omega) (ev_neg (by omega) ?_))))
          rw [rdc109 l i hlt, hw, hw2, ht]
          exact ev_neg c2 (ev_pos (by rw [List.length_take]; omega) g5)
theorem few_ev (l : List S109) (hl : l.length < 4398046511104) (hE : ∀ c ∈ l, c.f1.length < 9223372036854775807) : ∃ n, Ev (fun k => marigraphlaw09_few.f k l) (l.take n) ∧ (l.take n).length ≤ 210 ∧ (∀ c ∈ l.take n, c.f1.length ≤ 1100) ∧ ((l.take n).flatMap (·.f1)).length ≤ 6000 := by
  obtain ⟨n, _, g2, g3, g4, g5⟩ := few_from l hl hE l.length 0 6000 (by omega) (Nat.zero_le _) (by omega) (by omega) (by omega)
  rw [List.drop_zero] at g3 g4
  exact ⟨n, g5, by rw [List.length_take]; omega, g3, by omega⟩
/-! ### The reference's Span -/
/-! ### The reference's Range -/
/-! ### The reference's Cut -/
/-! ### Same -/
end Go.Proofs.Ythkpnnbjcendcaa.Pure
end
section
/- Blocks taken, cut, turned: plain laws for the statements. -/
set_option linter.unusedVariables false
set_option linter.unusedSimpArgs false
open Go.RowKit Go.Proofs.Ythkpnnbjcendcaa.X Go.Proofs.Ythkpnnbjcendcaa.Pl Go.Proofs.YthkpnnbjcendcaaW.PrintWords Go.Proofs.YthkpnnbjcendcaaW.PrintLast Go.Proofs.YthkpnnbjcendcaaW.PrintMore
namespace Go.Proofs.Ythkpnnbjcendcaa.Pure
theorem take_f {b : List Int} (h : b.length < 1000000) (hb : Byt b) : block_Take.f b = some (btakeR b) := if_pos ⟨h, hb⟩
theorem bput_f {x : List S109} (hl : x.length < 1000000) (hE : ∀ c ∈ x, c.f1.length ≤ 1100) (hf : fitL x) : block_Put.f x = some (bputR x) := by
  have hfc : fitsC x = true := by
    unfold fitsC
    rw [Bool.and_eq_true, List.all_eq_true]
    exact ⟨decide_eq_true (by omega), fun c hc => decide_eq_true (by have := hE c hc; omega)⟩
  exact if_pos ⟨hfc, List.all_eq_true.2 fun c hc => (fitB_iff _).2 (hf c hc)⟩
/-! ### How long a block is -/
theorem putB_few (l : List S52) (h : l.length ≤ 1024) : (putB l).length ≤ 17 * l.length + 10 := by
  have h1 := marksP_length l 0 0 0 0
  have h2 := (varint_len64 (n := l.length) (by omega)).2
  unfold putB
  rw [List.length_append, pack_length]
  omega
theorem chB_few {c : S109} (h : OkC c) : (chB c).length ≤ 17 * c.f1.length + 30 := by
  have h1 := (varint_len64 (n := c.f0.toNat) (by have := h.id1; omega)).2
  have h4 := h.n1
  have h3 := putB_few c.f1 h4
  have h2 := (varint_len64 (n := (putB c.f1).length) (by omega)).2
  unfold chB
  rw [List.length_append, List.length_append]
  omega
theorem flat_few : ∀ (l : List S109), (∀ c ∈ l, OkC c) → (l.flatMap chB).length ≤ 17 * (l.flatMap (·.f1)).length + 30 * l.length
  | [], _ => by simp
  | c :: l, h => by
    rw [List.flatMap_cons, List.flatMap_cons, List.length_append, List.length_append, List.length_cons]
    have h1 := chB_few (h c List.mem_cons_self)
    have h2 := flat_few l (fun d hd => h d (List.mem_cons_of_mem _ hd))
    omega
theorem body_few {l : List S109} (h : rightC l = true) (hp : (l.flatMap (·.f1)).length ≤ 6000) : 1 ≤ (bodyC l).length ∧ (bodyC l).length ≤ 200000 := by
  obtain ⟨h1, h2, h3⟩ := rightC_all h
  have := flat_few l h1
  have h4 := varint_len64 (n := l.length) (by omega)
  unfold bodyC
  rw [List.length_append]
  omega
theorem seal_len {y : List Int} (h : y.length ≤ 200000) : (sealL y).length = (varint y.length).length + y.length + 4 ∧ 1 ≤ (varint y.length).length ∧ (varint y.length).length ≤ 3 := by
  have h1 := Sc.varint_le 2 y.length (Nat.lt_of_le_of_lt h (by decide))
  unfold sealL
  rw [List.length_append, List.length_append, foot_len]
  exact ⟨rfl, h1.1, by omega⟩
theorem seal_byt {y : List Int} (hy : Byt y) : Byt (sealL y) := fun x hx => by
  unfold sealL at hx
  rcases List.mem_append.1 hx with h | h
  · rcases List.mem_append.1 h with h | h
    · exact varint_byt _ x h
    · exact hy x h
  · exact footL_byt _ x h
/-! ### Cut, longer, turned -/
theorem btake_cut {y : List Int} {k : Nat} (hk : k < (sealL y).length) : btakeR ((sealL y).take k) = ([], 90) := by
  refine btake_open fun x r he => ?_
  have h1 : sealL y ++ [] = sealL x ++ (r ++ (sealL y).drop k) := by
    rw [List.append_nil, ← List.append_assoc, ← he, List.take_append_drop]
  have h2 := congrArg List.length (seal_inj h1).2
  rw [List.length_append, List.length_drop, List.length_nil] at h2
  omega
theorem set_right (V z : List Int) (i : Nat) (v : Int) (h : V.length ≤ i) : (V ++ z).set i v = V ++ z.set (i - V.length) v := List.set_append_right _ _ h
theorem btake_turned {y : List Int} (hy : Byt y) (hm : y.length ≤ 200000) {i : Nat} {v : Int} (h3 : 3 ≤ i) (hi : i < (sealL y).length) (h0 : 0 ≤ v) (h1 : v ≤ 255) (hv : (sealL y)[i]? ≠ some v) : btakeR ((sealL y).set i v) = ([], 90) := by
  obtain ⟨hL, hV1, hV3⟩ := seal_len hm
  have hvb : Byt (varint y.length) := varint_byt _
  have hyy : Byt (varint y.length ++ y) := fun x hx => (List.mem_append.1 hx).elim (hvb x) (hy x)
  have e : sealL y = varint y.length ++ (y ++ footL (sumN (varint y.length ++ y))) := by unfold sealL; rw [List.append_assoc]
  rw [hL] at hi
  rw [e] at hv ⊢
  rw [List.getElem?_append_right (by omega)] at hv
  rw [set_right _ _ _ _ (by omega)]
  refine btake_open (seal_other ?_)
  generalize hj : i - (varint y.length).length = j at *
  generalize hF : footL (sumN (varint y.length ++ y)) = F at *
  have hF4 : F.length = 4 := by rw [← hF]; rfl
  by_cases hjm : j < y.length
  · rw [List.set_append_left _ _ hjm, List.drop_left' (by simp), List.take_left' (by simp)]
    rw [List.getElem?_append_left hjm] at hv
    intro he
    have he : F = footL (sumN (varint y.length ++ y.set j v)) := by rw [← he, List.take_of_length_le (by omega)]
    have hset : varint y.length ++ y.set j v = (varint y.length ++ y).set ((varint y.length).length + j) v := by
      rw [set_right _ _ _ _ (by omega)]
      congr 2; omega
    have hyv : Byt (varint y.length ++ y.set j v) := fun x hx => (List.mem_append.1 hx).elim (hvb x) (fun hx => by
      rcases List.mem_or_eq_of_mem_set hx with h | h
      · exact hy x h
      · omega)
    rw [← hF] at he
    have hs := footL_inj (sumN_lt hyy) (sumN_lt hyv) he
    rw [hset] at hs
    have := sumN_set (b := varint y.length ++ y) (k := (varint y.length).length + j) (by rw [List.length_append]; omega) hyy h0 hs.symm
    apply hv
    rw [← this, List.getElem_append_right (by omega), List.getElem?_eq_getElem hjm]
    congr 2; omega
  · rw [set_right _ _ _ _ (by omega), List.drop_left, List.take_left, hF]
    rw [List.getElem?_append_right (by omega)] at hv
    intro he
    rw [List.take_of_length_le (by rw [List.length_set]; omega)] at he
    apply hv
    rw [← he, List.getElem?_set_self (by omega)]
theorem xor_ne {a b : Int} (ha : 0 ≤ a ∧ a ≤ 255) (hb : 0 ≤ b ∧ b ≤ 255) (h : b ≠ 0) : Go.bits .xor .u8 a b ≠ a ∧ 0 ≤ Go.bits .xor .u8 a b ∧ Go.bits .xor .u8 a b ≤ 255 := by
  obtain ⟨A, rfl⟩ := Int.eq_ofNat_of_zero_le ha.1
  obtain ⟨B, rfl⟩ := Int.eq_ofNat_of_zero_le hb.1
  rw [u8_xor_nat A B (by omega) (by omega)]
  have h2 : A ^^^ B < 2 ^ 8 := Nat.xor_lt_two_pow (by omega) (by omega)
  refine ⟨fun e => h ?_, by omega, by omega⟩
  have e : A ^^^ B = A := by omega
  have e2 : B = 0 := by
    have := congrArg (A ^^^ ·) e
    simpa [← Nat.xor_assoc] using this
  omega
theorem wf_u8 {x : Int} (h : (Lit.int .u8 x).wf = true) : 0 ≤ x ∧ x ≤ 255 := by simpa [Lit.wf, IntKind.min, IntKind.max, IntKind.signed, IntKind.bits] using h
theorem wf_u16 {x : Int} (h : (Lit.int .u16 x).wf = true) : 0 ≤ x ∧ x ≤ 65535 := by simpa [Lit.wf, IntKind.min, IntKind.max, IntKind.signed, IntKind.bits] using h
end Go.Proofs.Ythkpnnbjcendcaa.Pure
end
section
/- BlockTurned as a plain statement: a block of which a byte is another one, or that is cut, or has more behind it, is none. -/
set_option linter.unusedVariables false
namespace Go.Proofs.Ythkpnnbjcendcaa.Pure
open Go.RowKit Go.Proofs.Ythkpnnbjcendcaa.X Go.Proofs.Ythkpnnbjcendcaa.Pl Go.Proofs.YthkpnnbjcendcaaW.PrintWords Go.Proofs.YthkpnnbjcendcaaW.PrintLast Go.Proofs.YthkpnnbjcendcaaW.PrintMore

theorem turned_get (b : List Int) (i : Nat) (hi : i < b.length) : rd b (i : Int) = b[i] := by rw [rd_get, getD_lt _ _ _ hi]
theorem turned_at (y : List Int) (hy : Byt y) (hm : y.length ≤ 200000) (x2 : Int) (h2 : 0 ≤ x2 ∧ x2 ≤ 255) (hx : x2 ≠ 0) (i : Nat) (h3 : 3 ≤ i) (hi : i < (sealL y).length) :
    block_Take.f ((sealL y).set i (Go.bits .xor .u8 (rd (sealL y) (i : Int)) x2)) = some ([], 90) := by
  have hb := seal_byt hy
  obtain ⟨g1, g2, g3⟩ := seal_len hm
  have hbi := hb _ (List.getElem_mem hi)
  obtain ⟨x1, x3, x4⟩ := xor_ne hbi h2 hx
  rw [turned_get _ _ hi, take_f (by rw [List.length_set]; omega) (fun z hz => by
    rcases List.mem_or_eq_of_mem_set hz with h | h
    · exact hb z h
    · rw [h]; exact ⟨x3, x4⟩)]
  rw [btake_turned hy hm h3 hi x3 x4 (by
    rw [List.getElem?_eq_getElem hi]
    intro h
    exact x1 (Option.some.inj h).symm)]
theorem turned_tail (y : List Int) (hy : Byt y) (h1 : 1 ≤ y.length) (hm : y.length ≤ 200000) (x2 : Int) (h2 : 0 ≤ x2 ∧ x2 ≤ 255) (k : Nat) (hk : k < (sealL y).length) :
    Ev (fun q => marigraphlaw09_BlockTurned.j1 q x2 true (sealL y) (k : Int) false) true := by
  obtain ⟨g1, g2, g3⟩ := seal_len hm
  have ht := turned_at y hy hm x2 h2
  generalize sealL y = b at *
  refine ev_succ (fun k => by rw [marigraphlaw09_BlockTurned.j1]) ?_
  refine ev_neg (by simp) ?_
  refine ev_some ?_
  refine ev_pos (by rw [List.length_nil]; omega) ?_
  refine ev_some ?_
  rw [List.nil_append]
  have e0 : wrap64 ((b.length : Int) - 3) = (b.length : Int) - 3 := w64 (by omega) (by omega)
  have e1 : wrap64 ((b.length : Int) - 3 + 1) = (b.length : Int) - 2 := by rw [w64 (by omega) (by omega)]; omega
  have e2 : (3 : Int) % ((b.length : Int) - 2) = 3 := Int.emod_eq_of_lt (by omega) (by omega)
  have e3 : wrap64 ((k : Int) + 3) = ((k + 3 : Nat) : Int) := by rw [w64 (by omega) (by omega)]; omega
  rw [e0, e1, e2, e3]
  by_cases c : (k : Int) < 3
  · refine ev_pos c (ev_neg (by omega) (ev_neg (by omega) ?_))
    by_cases hx : x2 = 0
    · exact ev_pos hx (Ev.now _)
    · refine ev_neg hx (ev_pos (by omega) (ev_pos (by omega) ?_))
      rw [Int.toNat_natCast]
      exact ev_const (ht hx (k + 3) (by omega) (by omega)) (ev_pos rfl (ev_pos rfl (ev_eq (Ev.now _) rfl)))
  · refine ev_neg c ?_
    by_cases hx : x2 = 0
    · exact ev_pos hx (Ev.now _)
    · refine ev_neg hx (ev_pos (by omega) (ev_pos (by omega) ?_))
      rw [Int.toNat_natCast]
      exact ev_const (ht hx k (by omega) (by omega)) (ev_pos rfl (ev_pos rfl (ev_eq (Ev.now _) rfl)))
theorem BlockTurned : marigraphlaw09_BlockTurned.Pure := by
  intro l0 a1 a2 l3 h0 hw hw1 hw2 h3 hw3
  refine Ev.rounds ?_
  unfold marigraphlaw09_BlockTurned.f
  obtain ⟨n, hf, hn, hp, ht⟩ := few_ev l0 (by omega) (fun c hc => by have := (hw c hc).2.1; omega)
  have hfit : fitL (l0.take n) := fun c hc z hz => by
    have := (hw c (List.mem_of_mem_take hc)).2.2 z hz
    exact ⟨wf64 this.1, wf64 this.2⟩
  refine ev_bind shown9_ev (ev_bind hf ?_)
  generalize l0.take n = x at *
  have ha1 := wf_u16 hw1
  have ha2 := wf_u8 hw2
  refine ev_const (bput_f (by omega) hp hfit) ?_
  by_cases hr : rightC x = true
  · have hbody := body_few hr ht
    have hyb := bodyC_byt x
    have hone : btakeR (sealL (bodyC x)) = (x, 0) := btake_put hfit (bput_of hr)
    rw [bput_of hr]
    generalize bodyC x = y at *
    obtain ⟨g1, g2, g3⟩ := seal_len hbody.2
    have hb := seal_byt hyb
    have tail := turned_tail y hyb hbody.1 hbody.2 a2 ha2
    have hcut := @btake_cut y
    have hover := fun r => @btake_over y r
    generalize sealL y = b at *
    refine ev_pos rfl ?_
    have hd : decide ((b.length : Int) < 3) = false := decide_eq_false (by omega)
    show Ev (fun k => marigraphlaw09_BlockTurned.j0 k a1 a2 l3 true b 0 (decide ((b.length : Int) < 3))) true
    rw [hd]
    refine ev_succ (fun k => by rw [marigraphlaw09_BlockTurned.j0]) (ev_neg (by simp) (ev_neg (by omega) ?_))
    have e1 : wrap64 a1 = a1 := w64 (by omega) (by omega)
    obtain ⟨K, hK, hKl⟩ : ∃ K : Nat, Int.tmod a1 (b.length : Int) = (K : Int) ∧ K < b.length := by
      have h1 := @tmod_range a1 (b.length : Int) (by omega)
      have h2 : 0 ≤ Int.tmod a1 (b.length : Int) := Int.tmod_nonneg _ ha1.1
      exact ⟨(Int.tmod a1 (b.length : Int)).toNat, by omega, by omega⟩
    rw [e1, hK]
    refine ev_pos (by omega) (ev_pos (by omega) ?_)
    rw [Int.toNat_natCast]
    refine ev_const (take_f (by rw [List.length_take]; omega) (fun z hz => hb z (List.mem_of_mem_take hz))) ?_
    rw [hcut hKl]
    refine ev_some ?_
    refine ev_pos (by rw [List.length_nil]; omega) ?_
    refine ev_some ?_
    rw [List.nil_append]
    have hmn := @mn_le (l3.length : Int) 20
    have hz : 0 ≤ mn (l3.length : Int) 20 := by rcases hmn.2.2 with e | e <;> omega
    refine ev_pos hz (ev_pos hmn.1 ?_)
    have hqn : l3 ≠ [] → l3.take (mn (l3.length : Int) 20).toNat ≠ [] := fun hne h => by
      have h1 := congrArg List.length h
      have h2 : 0 < l3.length := List.length_pos_iff.2 hne
      rw [List.length_take, List.length_nil] at h1
      rcases hmn.2.2 with e | e <;> omega
    have hql : (l3.take (mn (l3.length : Int) 20).toNat).length ≤ 20 := by
      rw [List.length_take]
      omega
    have hqb : Byt (l3.take (mn (l3.length : Int) 20).toNat) := fun z hz => wf_u8 (hw3 z (List.mem_of_mem_take hz))
    have hqe : l3 = [] → l3.take (mn (l3.length : Int) 20).toNat = [] := fun h => by rw [h, List.take_nil]
    generalize l3.take (mn (l3.length : Int) 20).toNat = q at *
    refine ev_pos (by omega) (ev_const (take_f (by rw [List.length_append]; omega) (fun z hz => (List.mem_append.1 hz).elim (hb z) (hqb z))) (ev_pos rfl (ev_pos rfl ?_)))
    by_cases hm : l3 = []
    · rw [hqe hm, List.append_nil, hone, hm]
      exact ev_neg (by simp) (ev_pos rfl (tail K hKl))
    · rw [hover q (hqn hm)]
      have hl3 : ((l3.length : Int) == 0) = false := by
        have h2 : 0 < l3.length := List.length_pos_iff.2 hm
        rw [beq_eq_false_iff_ne]
        omega
      rw [hl3]
      exact ev_neg (by decide) (ev_neg (by decide) (tail K hKl))
  · have e : bputR x = ([], 1) := by unfold bputR; rw [if_neg hr]
    rw [e]
    refine ev_neg (by simp) ?_
    refine ev_succ (fun k => by rw [marigraphlaw09_BlockTurned.j0]) ?_
    refine ev_pos rfl ?_
    refine ev_pos rfl ?_
    exact ev_eq (Ev.now _) rfl
end Go.Proofs.Ythkpnnbjcendcaa.Pure
end
