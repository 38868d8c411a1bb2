/- block.Range, walked: DeleteFunc, Range. -/
import Derived.Test.YthkpnnbjcendcaaBrgQb
import Derived.Lib.SliceRun
set_option linter.unusedVariables false
set_option linter.unusedSimpArgs false
open Go.RowKit Go.Proofs.Ythkpnnbjcendcaa.X Go.Proofs.Ythkpnnbjcendcaa.Pl Go.Proofs.Ythkpnnbjcendcaa.Sp Go.Proofs.Ythkpnnbjcendcaa.Pure Go.Proofs.YthkpnnbjcendcaaW.PrintWords Go.Proofs.YthkpnnbjcendcaaW.PrintLast Go.Proofs.YthkpnnbjcendcaaW.PrintMore
namespace Go.Proofs.Ythkpnnbjcendcaa.Sp
/-- The cells hold these points. -/
def CellsOf (cs : Array Value) (M : List S52) : Prop := ∀ j (h : j < M.length), cs[j * 2]? = some (.int .i64 (M[j]'h).f0) ∧ cs[j * 2 + 1]? = some (.int .i64 (M[j]'h).f1)
theorem CellsOf.set {cs : Array Value} {M : List S52} (h : CellsOf cs M) (i : Nat) (x : S52) (hi : i < M.length) : CellsOf ((cs.setIfInBounds (i * 2) (.int .i64 x.f0)).setIfInBounds (i * 2 + 1) (.int .i64 x.f1)) (M.set i x) := by
  intro j hj
  rw [List.length_set] at hj
  have h1 := (h j hj).1
  have h2 := (h j hj).2
  have b1 := (Array.getElem?_eq_some_iff.1 (h i hi).1).1
  have b2 := (Array.getElem?_eq_some_iff.1 (h i hi).2).1
  rw [List.getElem_set]
  by_cases e : i = j
  · subst e
    rw [if_pos rfl]
    constructor
    · rw [Array.getElem?_setIfInBounds_ne (by omega), Array.getElem?_setIfInBounds_self_of_lt b1]
    · rw [Array.getElem?_setIfInBounds_self_of_lt (by rw [Array.size_setIfInBounds]; exact b2)]
  · rw [if_neg e]
    constructor
    · rw [Array.getElem?_setIfInBounds_ne (by omega), Array.getElem?_setIfInBounds_ne (by omega)]; exact h1
    · rw [Array.getElem?_setIfInBounds_ne (by omega), Array.getElem?_setIfInBounds_ne (by omega)]; exact h2
/-- An own row of points, told by its block's cells. -/
theorem Sep.asbox {base : Nat} {w : World} {F : Nat → Prop} {g n c : Nat} {l : List S52} {rs : List Res} (h : Sep base w (row F k52 52 base (.slice (some ⟨g, 0, none⟩) n c) l :: rs)) {cs : Array Value} (hg : w.heap[g]? = some (.cells cs 52 (0, 0))) (hb : base ≤ g) : Sep base w (box g cs 52 :: rs) :=
  h.call (r' := box g cs 52) (fun _ _ _ => rfl) (Own.box hb hg) (fun k hk => .inl (by
    have hk : k = g := hk
    subst hk
    exact h.R.1 k (by simp [Value.ownBlock])))
theorem cells_of_C {w : World} {g n : Nat} {l : List S52} {cs : Array Value} (h : Kd.C k52 w (some ⟨g, 0, none⟩) n l) (hn : l.length = n) (hg : w.heap[g]? = some (.cells cs 52 (0, 0))) : CellsOf cs l := by
  intro j hj
  obtain ⟨ad, e, h0, h1⟩ := at_T52 h (j : Int) (by omega) (by omega)
  injection e with e
  subst e
  rw [Int.toNat_natCast] at h0 h1
  have e1 : (rd_T52 l (j : Int)) = l[j] := by unfold rd_T52; rw [Int.toNat_natCast, getD_lt _ _ _ hj]
  rw [e1] at h0 h1
  have a1 : (⟨g, 0, none⟩ : Addr).add (j * 2) = ⟨g, j * 2, none⟩ := by unfold Addr.add; split <;> simp_all
  rw [a1] at h0 h1
  exact ⟨by rw [← blk_cell hg]; exact h0, by rw [← blk_cell hg]; exact h1⟩
theorem below_setCells {b : Nat} {w0 : World} (hb : w0.heap.size ≤ b) : ∀ (vs : List Value) (o : Nat) (w : World), Below w0.heap.size w0 w → Below w0.heap.size w0 (w.setCells b o vs)
  | [], _, _, h => h
  | v :: r, o, w, h => below_setCells hb r (o + 1) _ (below_set h hb)
theorem zeroCells_len (z : Array Value) (n : Nat) : (Builtin.zeroCells z n).toList.length = n * z.size := by simp [Builtin.zeroCells]
theorem run_clear_k {P : Program} (w : World) (t e ty : TypeId) (z : Value) (ht : P.underlying t = some (.slice e)) (hv : ∀ w, (zeroValue e).run P w = .ok z w) (hz : 0 < z.cells.size) (h1 : ∀ v ∈ z.cells.toList, v.oneCell' = true) (b o n c : Nat) (hn : 0 < n)
    (hc : ∀ j, j < n * z.cells.size → (w.cell? ⟨b, o + j, none⟩).isSome = true) (hf : ∀ j, j < n * z.cells.size → w.frozen? ⟨b, o + j, none⟩ = false) :
    (Builtin.clear_ #[t] ty #[.slice (some ⟨b, o, none⟩) n c]).run P w = .ok (.tuple #[]) (w.setCells b o (Builtin.zeroCells z.cells n).toList) := by
  have hst := run_storeCells_cells (P := P) b o (Builtin.zeroCells z.cells n).toList 0 w (by rw [zeroCells_len]; simpa using hc) (by rw [zeroCells_len]; simpa using hf) (by
    intro v hv'
    simp only [Builtin.zeroCells, Array.toList_map, List.mem_map] at hv'
    obtain ⟨i, _, rfl⟩ := hv'
    rw [getElem!_pos z.cells (i % z.cells.size) (Nat.mod_lt _ hz)]
    exact h1 _ (by simp))
  simp only [Nat.add_zero] at hst
  obtain ⟨m, rfl⟩ : ∃ m, n = m + 1 := ⟨n - 1, by omega⟩
  simp [Builtin.clear_, run_underlying ht, hv, hst]
theorem R_of_box {w : World} {base g m c : Nat} {cs : Array Value} {l : List S52} (hblk : w.heap[g]? = some (.cells cs 52 (0, 0))) (hb : base ≤ g) (hm : l.length = m) (hmc : m ≤ c) (hcm : c ≤ maxLen) (hsz : cs.size = c * 2) (hcell : CellsOf cs l) : Kd.R k52 52 w base (fun _ => True) (.slice (some ⟨g, 0, none⟩) m c) l := by
  subst hm
  have hcl : cs.toList.length = c * 2 := by simp [hsz]
  refine ⟨fun _ _ => trivial, cs.toList.take (l.length * 2), ⟨?_, .inr ⟨g, c, cs, rfl, hb, hblk, hmc, hcm, hsz, rfl⟩⟩, ?_, fun j p hp => ?_⟩
  · show _ = l.length * 2
    rw [List.length_take, hcl]; omega
  · show _ = l.length * 2
    rw [List.length_take, hcl]; omega
  · obtain ⟨hj, rfl⟩ := List.getElem?_eq_some_iff.1 hp
    have h0 := (hcell j hj).1
    have h1 := (hcell j hj).2
    have e : ((cs.toList.take (l.length * 2)).drop (j * 2)).take 2 = [.int .i64 l[j].f0, .int .i64 l[j].f1] := by
      refine List.ext_getElem? fun q => ?_
      match q with
      | 0 => rw [List.getElem?_take_of_lt (by omega), List.getElem?_drop, List.getElem?_take_of_lt (by omega), Array.getElem?_toList]; exact h0
      | 1 => rw [List.getElem?_take_of_lt (by omega), List.getElem?_drop, List.getElem?_take_of_lt (by omega), Array.getElem?_toList]; exact h1
      | q + 2 => rw [List.getElem?_eq_none (by rw [List.length_take]; omega)]; simp
    show k52.M w base _ l[j] (((cs.toList.take (l.length * 2)).drop (j * 2)).take 2)
    rw [e]
    exact k52_mkM _ _ _ _
theorem setCells_blk {b t : Nat} : ∀ (vs : List Value) (o : Nat) (w : World) (cs : Array Value), w.heap[b]? = some (.cells cs t (0, 0)) → ∃ cs' : Array Value, (w.setCells b o vs).heap[b]? = some (.cells cs' t (0, 0)) ∧ cs'.size = cs.size ∧ ∀ q, q < o → cs'[q]? = cs[q]?
  | [], _, _, cs, h => ⟨cs, h, rfl, fun _ _ => rfl⟩
  | v :: r, o, w, cs, h => by
    obtain ⟨cs', h1, h2, h3⟩ := setCells_blk r (o + 1) (w.setCell ⟨b, o, none⟩ v) (cs.setIfInBounds o v) (blk_put h o v rfl)
    refine ⟨cs', h1, by rw [h2, Array.size_setIfInBounds], fun q hq => ?_⟩
    rw [h3 q (by omega), Array.getElem?_setIfInBounds_ne (by omega)]
theorem drop_head {M l : List S52} {j : Nat} (h : M.drop j = l.drop j) (hm : j < M.length) (hl : j < l.length) : M[j] = l[j] ∧ M.drop (j + 1) = l.drop (j + 1) := by
  rw [List.drop_eq_getElem_cons hm, List.drop_eq_getElem_cons hl] at h
  injection h with h1 h2
  exact ⟨h1, h2⟩
theorem filt_keep {p : S52 → Bool} {M l : List S52} {i j : Nat} (hj : j < l.length) (hM : M.length = l.length) (hij : i < j) (h1 : M.take i = (l.take j).filter p) (h2 : M.drop j = l.drop j) (hp : p l[j] = true) :
    (M.set i l[j]).take (i + 1) = (l.take (j + 1)).filter p ∧ (M.set i l[j]).drop (j + 1) = l.drop (j + 1) := by
  have hd := drop_head h2 (by omega) hj
  constructor
  · rw [List.take_succ_eq_append_getElem hj, List.filter_append, ← h1, List.take_succ_eq_append_getElem (by rw [List.length_set]; omega), List.getElem_set_self, List.take_set_of_le (Nat.le_refl i)]
    simp [hp]
  · rw [List.drop_set_of_lt (by omega)]
    exact hd.2
theorem filt_skip {p : S52 → Bool} {M l : List S52} {i j : Nat} (hj : j < l.length) (hM : M.length = l.length) (h1 : M.take i = (l.take j).filter p) (h2 : M.drop j = l.drop j) (hp : p l[j] = false) :
    M.take i = (l.take (j + 1)).filter p ∧ M.drop (j + 1) = l.drop (j + 1) := by
  have hd := drop_head h2 (by omega) hj
  refine ⟨?_, hd.2⟩
  rw [List.take_succ_eq_append_getElem hj, List.filter_append, ← h1]
  simp [hp]
end Go.Proofs.Ythkpnnbjcendcaa.Sp
namespace Go.Proofs.Ythkpnnbjcendcaa.Sc
set_option maxHeartbeats 8000000 in
set_option maxRecDepth 100000 in
theorem idxp_calls (g1 g2 : Nat) (fr tl : Int) (A0 : Option Addr) (c0 n0 : Nat) (l0 : List S52) (w : World) (hn0 : l0.length = n0) (hr0 : Kd.C k52 w A0 l0.length l0) (hl : n0 < 4611686018427387904) (hc1 : w.cell? ⟨g1, 0, none⟩ = some (.int .i64 fr)) (hc2 : w.cell? ⟨g2, 0, none⟩ = some (.int .i64 tl)) :
    Calls Try.prog 106 #[.slice A0 n0 c0, .func (.func 85) #[] #[.pointer (some ⟨g1, 0, none⟩), .pointer (some ⟨g2, 0, none⟩)]] w fun e w' => e = .returned (.int .i64 (idxI (fun x => !inR fr tl x) l0)) ∧ Below w.heap.size w w' := by
  subst hn0
  have HB := Aside0.mk (Below.refl w.heap.size w)
  have HR := Aside0.mk hr0
  have HL := Aside0.mk hl
  have HC1 := Aside0.mk hc1
  have HG1 := Aside0.mk (World.block_lt_of_cell? w _ hc1)
  have HC2 := Aside0.mk hc2
  have HG2 := Aside0.mk (World.block_lt_of_cell? w _ hc2)
  have eg := enters_of Try.func85 (by kernel_rfl) rfl
  clear hr0 hl hc1 hc2
  go_enter Try.func106, Try.ntmps106
  go_wp2
  go_loopg [5, 8] l0.length (fun kq _ v8 w' => ∃ i : Nat, v8 = .int .i64 (i : Int) ∧ Aside0 (kq + i = l0.length ∧ ∀ j (hj : j < l0.length), j < i → IsB (inR fr tl l0[j]) true) ∧ Aside0 (Below w.heap.size w w'))
  case atStart => exact ⟨0, rfl, ⟨by omega, fun j _ hj => absurd hj (Nat.not_lt_zero _)⟩, HB⟩
  case round =>
    clear HB
    obtain ⟨i, rfl, HI, HB⟩ := hrel
    by_cases hlt : i < l0.length
    · obtain ⟨k1, rfl⟩ : ∃ q, gk = q + 1 := ⟨gk - 1, by have := HI.out.1; omega⟩
      have c1b : decide ((i : Int) < (l0.length : Int)) = true := decide_eq_true (by omega)
      have c1n : decide (i < l0.length) = true := decide_eq_true hlt
      have hnx : wrap64 ((i : Int) + 1) = ((i + 1 : Nat) : Int) := by have := HL.out; rw [w64 (by omega) (by omega)]; simp
      obtain ⟨ad, e1, hx0, hx1⟩ := at_T52 HR.out (i : Int) (by omega) (by omega)
      cases e1
      rw [Int.toNat_natCast] at hx0 hx1
      replace hx0 := (HB.out.cell (World.block_lt_of_cell? w _ hx0)).trans hx0
      replace hx1 := (HB.out.cell (World.block_lt_of_cell? w _ hx1)).trans hx1
      obtain ⟨p, hp⟩ : ∃ p, p = rd_T52 l0 (i : Int) := ⟨_, rfl⟩
      rw [← hp] at hx0 hx1
      have hpe : l0[i] = p := by rw [hp]; unfold rd_T52; rw [Int.toNat_natCast, getD_lt _ _ _ hlt]
      have HPE := Aside0.mk (show ∀ h : i < l0.length, l0[i]'h = p from fun _ => hpe)
      have HX := Aside0.mk hnx
      have HLT := Aside0.mk hlt
      have c4 := eq_true hlt
      have c5 := eq_true (show (i : Int) < (l0.length : Int) by omega)
      have c6 := eq_true (show 0 ≤ (i : Int) by omega)
      obtain ⟨b, hb⟩ : ∃ b, inR fr tl p = b := ⟨_, rfl⟩
      have HQ := Aside0.mk (show IsB (inR fr tl p) b from hb)
      clear hnx hlt hp hpe hb
      cases b
      · go_wp2_with (go_at_call 85; (refine (rg2_calls g1 g2 fr tl p _ _ ((HB.out.cell (p := ⟨g1, 0, none⟩) HG1.out).trans HC1.out) ((HB.out.cell (p := ⟨g2, 0, none⟩) HG2.out).trans HC2.out) HQ.out).mono ?_); rintro e w' ⟨rfl, hb⟩; have n0_ := Aside0.mk (below_step HB.out hb); clear HB hb; have HB := n0_; clear n0_)
        go_ret
        exact ⟨by rw [idx_hit (p := fun x : S52 => !inR fr tl x) HLT.out (by show (!inR fr tl _) = true; rw [HPE.out HLT.out, show inR fr tl p = false from HQ.out]; rfl) (fun j hj => by show (!inR fr tl _) = false; rw [show inR fr tl _ = true from HI.out.2 j (by have := HLT.out; omega) hj]; rfl)]; try rfl, HB.out⟩
      · go_wp2_with (go_at_call 85; (refine (rg2_calls g1 g2 fr tl p _ _ ((HB.out.cell (p := ⟨g1, 0, none⟩) HG1.out).trans HC1.out) ((HB.out.cell (p := ⟨g2, 0, none⟩) HG2.out).trans HC2.out) HQ.out).mono ?_); rintro e w' ⟨rfl, hb⟩; have n0_ := Aside0.mk (below_step HB.out hb); clear HB hb; have HB := n0_; clear n0_)
        go_roundg k1
        case measure => omega
        case rel => exact ⟨i + 1, (by first | rfl | rw [HX.out]), ⟨by have := HI.out.1; omega, fun j hj hji => by
          by_cases e : j = i
          · subst e; rw [HPE.out hj]; exact HQ.out
          · exact HI.out.2 j hj (by omega)⟩, HB⟩
    · have c1b : decide ((i : Int) < (l0.length : Int)) = false := decide_eq_false (by omega)
      have c1n : decide (i < l0.length) = false := decide_eq_false hlt
      have HM := Aside0.mk (show idxI (fun x : S52 => !inR fr tl x) l0 = -1 from idx_miss fun j hj => by show (!inR fr tl _) = false; rw [show inR fr tl _ = true from HI.out.2 j hj (by omega)]; rfl)
      clear hlt
      go_wp2
      go_ret
      exact ⟨by rw [HM.out]; try rfl, HB.out⟩
set_option maxHeartbeats 16000000 in
set_option maxRecDepth 100000 in
theorem delf_calls (g1 g2 : Nat) (fr tl : Int) (F : Nat → Prop) (A : Option Addr) (c n : Nat) (l : List S52) (w0 w : World) (hn : l.length = n) (hB : Below w0.heap.size w0 w) (hS : Sep w0.heap.size w [row F k52 52 w0.heap.size (.slice A n c) l, box g2 #[.int .i64 tl] 3, box g1 #[.int .i64 fr] 3]) (hl : n < 1000000000) :
    Calls Try.prog 83 #[.slice A n c, .func (.func 85) #[] #[.pointer (some ⟨g1, 0, none⟩), .pointer (some ⟨g2, 0, none⟩)]] w fun e w' => ∃ v, e = .returned v ∧ Kd.R k52 52 w' w0.heap.size (fun _ => True) v (l.filter (inR fr tl)) ∧ Below w0.heap.size w0 w' := by
  have HB := Aside0.mk hB
  have HS := Aside0.mk hS
  have HN := Aside0.mk hn
  have HL := Aside0.mk hl
  have HCC := Aside0.mk (show n ≤ c from (Kd.R_reads' (Sep.R hS)).2.1)
  have eg := enters_of Try.func85 (by kernel_rfl) rfl
  rcases hi : l.findIdx? (fun x => !inR fr tl x) with _ | i0
  · have hI : idxI (fun x => !inR fr tl x) l = -1 := by unfold idxI; rw [hi]
    have hf : l.filter (inR fr tl) = l := by
      rw [List.filter_eq_self]
      intro x hx
      have := List.findIdx?_eq_none_iff.1 hi x hx
      simpa using this
    have HI := Aside0.mk hI
    have HF := Aside0.mk hf
    clear hB hS hn hl hi hI hf
    go_enter Try.func83, Try.ntmps83
    go_wp2_with (first
      | (go_at_call 106; ((with_reducible refine (idxp_calls g1 g2 fr tl A c n l _ HN.out (HN.out ▸ (Kd.R_reads' (Sep.R HS.out)).2.2) (by have := HL.out; omega) (Sep.c10 HS.out.p3) (Sep.c10 HS.out.p2)).mono ?_); rintro e w1 ⟨rfl, hb⟩; rw [HI.out]; have n0_ := Aside0.mk (below_step (by repeat (first | (with_reducible first | exact HB.out | apply below_alloc | apply pw_below_drewN | apply below_drew1) | exact HB.out)) hb); have n1_ := Aside0.mk (Sep.below (by repeat (first | (with_reducible first | exact HS.out | apply sep_alloc | apply sep_drewN | apply sep_drew) | exact HS.out)) hb); clear HB HS; have HB := n0_; have HS := n1_; clear n0_ n1_ hb)))
    go_ret
    refine ⟨_, rfl, ?_, HB.out⟩
    rw [HF.out]
    exact Kd.R_mono (Sep.R HS.out) (fun _ _ => trivial)
  · have hI : idxI (fun x => !inR fr tl x) l = (i0 : Int) := by unfold idxI; rw [hi]
    obtain ⟨hi0, hp0, hpa⟩ := List.findIdx?_eq_some_iff_getElem.1 hi
    have hne : ((i0 : Int) == -1) = false := by rw [beq_eq_false_iff_ne]; omega
    obtain ⟨inner, ho⟩ := Kd.R_own (Sep.R hS)
    obtain ⟨g, cap, cs0, e2, hgb, hcs0, hle0, hmx, hsz, _⟩ : ∃ g cap cur, Value.slice A n c = .slice (some ⟨g, 0, none⟩) l.length cap ∧ w0.heap.size ≤ g ∧ w.heap[g]? = some (.cells cur 52 (0, 0)) ∧ l.length ≤ cap ∧ cap ≤ maxLen ∧ cur.size = cap * 2 ∧ cur.toList.take (l.length * 2) = inner := by
      rcases ho.2 with ⟨_, h0⟩ | h
      · omega
      · exact h
    obtain ⟨rfl, rfl⟩ : A = some ⟨g, 0, none⟩ ∧ c = cap := by injection e2 with h1 h2 h3; exact ⟨h1, h3⟩
    have HSZ := Aside0.mk (And.intro hmx hsz)
    have HGB := Aside0.mk hgb
    have hcell := cells_of_C (HN.out ▸ (Kd.R_reads' (Sep.R hS)).2.2) hn hcs0
    have hst : (l.take i0).filter (inR fr tl) = l.take i0 := by
      rw [List.filter_eq_self]
      intro x hx
      obtain ⟨j, hj, rfl⟩ := List.getElem_of_mem hx
      rw [List.length_take] at hj
      rw [List.getElem_take]
      have := hpa j (by omega)
      simpa using this
    have hst1 : (l.take (i0 + 1)).filter (inR fr tl) = l.take i0 := by
      rw [List.take_succ_eq_append_getElem hi0, List.filter_append, hst]
      have : inR fr tl l[i0] = false := by simpa using hp0
      simp [this]
    have HI := Aside0.mk hI
    have HI0 := Aside0.mk hi0
    have HST := Aside0.mk hst1
    have HCELL := Aside0.mk hcell
    have hw1 : wrap64 ((i0 : Int) + 1) = ((i0 + 1 : Nat) : Int) := by rw [w64 (by omega) (by omega)]; simp
    have HW1 := Aside0.mk hw1
    have HRD := Aside0.mk (show Kd.C k52 w (some ⟨g, 0, none⟩) n l from HN.out ▸ (Kd.R_reads' (Sep.R hS)).2.2)
    have n0_ := Sep.asbox HS.out hcs0 hgb
    clear HS
    have HS := Aside0.mk n0_
    clear n0_ hB hS hn hl hi hI hi0 hp0 hpa hst hst1 hcell hcs0 hgb e2 ho hle0 hmx hsz
    go_enter Try.func83, Try.ntmps83
    go_wp2_with (first
      | (go_at_call 106; ((with_reducible refine (idxp_calls g1 g2 fr tl (some ⟨g, 0, none⟩) c n l _ HN.out (HN.out.symm ▸ HRD.out) (by have := HL.out; omega) (Sep.c10 HS.out.p3) (Sep.c10 HS.out.p2)).mono ?_); rintro e w1 ⟨rfl, hb⟩; rw [HI.out]; have n0_ := Aside0.mk (below_step (by repeat (first | (with_reducible first | exact HB.out | apply below_alloc | apply pw_below_drewN | apply below_drew1) | exact HB.out)) hb); have n1_ := Aside0.mk (Sep.below (by repeat (first | (with_reducible first | exact HS.out | apply sep_alloc | apply sep_drewN | apply sep_drew) | exact HS.out)) hb); clear HB HS; have HB := n0_; have HS := n1_; clear n0_ n1_ hb)))
    go_loopg [5, 6, 7] n (fun kq v5 v6 _ w' => ∃ (i j : Nat) (cs : Array Value) (M : List S52), v5 = .int .i64 (i : Int) ∧ v6 = .int .i64 (j : Int) ∧ Aside0 (n ≤ kq + j ∧ M.length = n ∧ i < j ∧ j ≤ n ∧ CellsOf cs M ∧ M.take i = (l.take j).filter (inR fr tl) ∧ M.drop j = l.drop j ∧ cs.size = c * 2) ∧
      Aside0 (Sep w0.heap.size w' [box g cs 52, box g2 #[.int .i64 tl] 3, box g1 #[.int .i64 fr] 3]) ∧ Aside0 (Below w0.heap.size w0 w'))
    case atStart => exact ⟨i0, i0 + 1, cs0, l, rfl, (by first | rfl | rw [HW1.out]), ⟨by omega, HN.out, by omega, by have := HI0.out; have := HN.out; omega, HCELL.out, HST.out.symm, rfl, HSZ.out.2⟩, HS, HB⟩
    case round =>
      clear HS HB hw1 hne
      obtain ⟨i, j, cs, M, rfl, rfl, HJ, HS, HB⟩ := hrel
      by_cases hlt : j < n
      · have d1b : decide ((j : Int) < (n : Int)) = true := decide_eq_true (by omega)
        have d1n : decide (j < n) = true := decide_eq_true hlt
        have hij : i < n := by have := HJ.out; omega
        have hjl : j < l.length := by rw [HN.out]; exact hlt
        have hjm : j < M.length := by rw [HJ.out.2.1]; exact hlt
        obtain ⟨x, hx⟩ : ∃ x, x = l[j] := ⟨_, rfl⟩
        have hmx : M[j] = x := by rw [hx]; exact (drop_head HJ.out.2.2.2.2.2.2.1 hjm hjl).1
        have hx0 := (Sep.cell HS.out (j * 2)).trans (HJ.out.2.2.2.2.1 j hjm).1
        have hx1 := (Sep.cell HS.out (j * 2 + 1)).trans (HJ.out.2.2.2.2.1 j hjm).2
        rw [hmx] at hx0 hx1
        have hnx : wrap64 ((j : Int) + 1) = ((j + 1 : Nat) : Int) := by have := HL.out; rw [w64 (by omega) (by omega)]; simp
        have hnx2 : wrap64 ((i : Int) + 1) = ((i + 1 : Nat) : Int) := by have := HL.out; rw [w64 (by omega) (by omega)]; simp
        have HX := Aside0.mk hnx
        have HX2 := Aside0.mk hnx2
        have HLT := Aside0.mk hlt
        have HXE := Aside0.mk (show ∀ h : j < l.length, l[j]'h = x from fun _ => hx.symm)
        have c4 := eq_true hlt
        have c5 := eq_true (show (j : Int) < (n : Int) by omega)
        have c6 := eq_true (show 0 ≤ (j : Int) by omega)
        have c7 := eq_true hij
        have c8 := eq_true (show (i : Int) < (n : Int) by omega)
        have c9 := eq_true (show 0 ≤ (i : Int) by omega)
        have HIM := Aside0.mk (show i < M.length by rw [HJ.out.2.1]; exact hij)
        obtain ⟨b, hb⟩ : ∃ b, inR fr tl x = b := ⟨_, rfl⟩
        have HQ := Aside0.mk (show IsB (inR fr tl x) b from hb)
        clear hnx hnx2 hlt hij hjl hjm hx hmx hb
        cases b
        · go_wp2_with (first
            | ((with_reducible refine gate_dst (N := 7) rfl ?_); (try (refine gate_guard (by rfl) ?_; dsimp only)); refine box_event ?hg (N := 7) ?hd (cs := #[.int .i64 0, .int .i64 0]) (t := 52) ?hr ?_; (case hd => rfl); (case hg => rfl); (case hr => first | (go_simp; done) | (go_simp; rfl)); intro gq hg w5 hbox hb; have n0_ := Aside0.mk (below_step (by repeat (first | (with_reducible first | exact HB.out | apply below_alloc | apply pw_below_drewN | apply below_drew1) | exact HB.out)) hb); have n1_ := Aside0.mk (Sep.newbox (by repeat (first | (with_reducible first | exact HS.out | apply sep_alloc | apply sep_drewN | apply sep_drew) | exact HS.out)) hb (Nat.le_of_eq hg.symm) (below_size (by repeat (first | (with_reducible first | exact HB.out | apply below_alloc | apply pw_below_drewN | apply below_drew1) | exact HB.out))) hbox); clear HB HS; have HB := n0_; have HS := n1_; clear n0_ n1_ hb hbox hg; have hc0 := Sep.c20 HS.out; have hc1 := Sep.c21 HS.out; have hf0 := Sep.free HS.out 0; have hf1 := Sep.free HS.out 1)
            | (go_at_call 85; (refine (rg2_calls g1 g2 fr tl x _ _ (Sep.c10 (Sep.p4 ((HS.out.s20 (.int .i64 x.f0)).s21 (.int .i64 x.f1)))) (Sep.c10 (Sep.p3 ((HS.out.s20 (.int .i64 x.f0)).s21 (.int .i64 x.f1)))) HQ.out).mono ?_); rintro e w8 ⟨rfl, hb⟩; have n0_ := Aside0.mk (below_step (below_set (j := 1) (v := .int .i64 x.f1) (below_set (j := 0) (v := .int .i64 x.f0) HB.out HS.out.ge) HS.out.ge) hb); have n1_ := Aside0.mk (Sep.below ((HS.out.s20 (.int .i64 x.f0)).s21 (.int .i64 x.f1)) hb); (try clear HB HS); have HB := n0_; have HS := n1_; clear n0_ n1_; clear hb hc0 hc1 hf0 hf1))
          go_roundg (n - (j + 1))
          case measure => have := HJ.out; have := HLT.out; omega
          case rel => exact ⟨i, j + 1, cs, M, rfl, (by first | rfl | rw [HX.out]), by
            have h := HJ.out
            have h2 := filt_skip (p := inR fr tl) (by rw [HN.out]; exact HLT.out) (by rw [h.2.1, HN.out]) h.2.2.2.2.2.1 h.2.2.2.2.2.2.1 (by rw [HXE.out]; exact HQ.out)
            exact ⟨by omega, h.2.1, by omega, HLT.out, h.2.2.2.2.1, h2.1, h2.2, h.2.2.2.2.2.2.2⟩, ⟨HS.out.drop⟩, HB⟩
        · go_wp2_with (first
            | ((with_reducible refine gate_dst (N := 7) rfl ?_); (try (refine gate_guard (by rfl) ?_; dsimp only)); refine box_event ?hg (N := 7) ?hd (cs := #[.int .i64 0, .int .i64 0]) (t := 52) ?hr ?_; (case hd => rfl); (case hg => rfl); (case hr => first | (go_simp; done) | (go_simp; rfl)); intro gq hg w5 hbox hb; have n0_ := Aside0.mk (below_step (by repeat (first | (with_reducible first | exact HB.out | apply below_alloc | apply pw_below_drewN | apply below_drew1) | exact HB.out)) hb); have n1_ := Aside0.mk (Sep.newbox (by repeat (first | (with_reducible first | exact HS.out | apply sep_alloc | apply sep_drewN | apply sep_drew) | exact HS.out)) hb (Nat.le_of_eq hg.symm) (below_size (by repeat (first | (with_reducible first | exact HB.out | apply below_alloc | apply pw_below_drewN | apply below_drew1) | exact HB.out))) hbox); clear HB HS; have HB := n0_; have HS := n1_; clear n0_ n1_ hb hbox hg; have hc0 := Sep.c20 HS.out; have hc1 := Sep.c21 HS.out; have hf0 := Sep.free HS.out 0; have hf1 := Sep.free HS.out 1)
            | (go_at_call 85; (refine (rg2_calls g1 g2 fr tl x _ _ (Sep.c10 (Sep.p4 ((HS.out.s20 (.int .i64 x.f0)).s21 (.int .i64 x.f1)))) (Sep.c10 (Sep.p3 ((HS.out.s20 (.int .i64 x.f0)).s21 (.int .i64 x.f1)))) HQ.out).mono ?_); rintro e w8 ⟨rfl, hb⟩; have n0_ := Aside0.mk (below_step (below_set (j := 1) (v := .int .i64 x.f1) (below_set (j := 0) (v := .int .i64 x.f0) HB.out HS.out.ge) HS.out.ge) hb); have n1_ := Aside0.mk (Sep.below ((HS.out.s20 (.int .i64 x.f0)).s21 (.int .i64 x.f1)) hb); (try clear HB HS); have HB := n0_; have HS := n1_; clear n0_ n1_; clear hb hc0 hc1 hf0 hf1; have hc0 := Sep.c20 HS.out; have hc1 := Sep.c21 HS.out; have hg0 := (Sep.cell HS.out.p2 (i * 2)).trans (HJ.out.2.2.2.2.1 i HIM.out).1; have hg1 := (Sep.cell HS.out.p2 (i * 2 + 1)).trans (HJ.out.2.2.2.2.1 i HIM.out).2; have hgf0 := Sep.free HS.out.p2 (i * 2); have hgf1 := Sep.free HS.out.p2 (i * 2 + 1)))
          go_roundg (n - (j + 1))
          case measure => have := HJ.out; have := HLT.out; omega
          case rel => exact ⟨i + 1, j + 1, (cs.setIfInBounds (i * 2) (.int .i64 x.f0)).setIfInBounds (i * 2 + 1) (.int .i64 x.f1), M.set i x, (by first | rfl | rw [HX2.out]), (by first | rfl | rw [HX.out]), by
            have h := HJ.out
            have h2 := filt_keep (p := inR fr tl) (by rw [HN.out]; exact HLT.out) (by rw [h.2.1, HN.out]) h.2.2.1 h.2.2.2.2.2.1 h.2.2.2.2.2.2.1 (by rw [HXE.out]; exact HQ.out)
            rw [HXE.out] at h2
            exact ⟨by omega, by rw [List.length_set]; exact h.2.1, by omega, HLT.out, h.2.2.2.2.1.set i x HIM.out, h2.1, h2.2, by rw [Array.size_setIfInBounds, Array.size_setIfInBounds]; exact h.2.2.2.2.2.2.2⟩, ⟨((HS.out.p2.set (i * 2) (.int .i64 x.f0) rfl).set (i * 2 + 1) (.int .i64 x.f1) rfl).drop2⟩, ⟨below_set (below_set HB.out HS.out.p2.ge) HS.out.p2.ge⟩⟩
      · have d1b : decide ((j : Int) < (n : Int)) = false := decide_eq_false (by omega)
        have d1n : decide (j < n) = false := decide_eq_false hlt
        have hjn : j = n := by have := HJ.out; omega
        have hin : i < n := by have := HJ.out; omega
        have hfl : l.filter (inR fr tl) = M.take i := by
          rw [HJ.out.2.2.2.2.2.1, List.take_of_length_le (by rw [HN.out]; omega)]
        have hfn : (l.filter (inR fr tl)).length = i := by rw [hfl, List.length_take, HJ.out.2.1]; omega
        have hcz : n * 2 ≤ cs.size := by
          have h := (HJ.out.2.2.2.2.1 (n - 1) (by rw [HJ.out.2.1]; omega)).2
          have := (Array.getElem?_eq_some_iff.1 h).1
          omega
        obtain ⟨i05, hi05, _, hsz5, _⟩ := info_parts info52
        have hfr := cut_from (P := Try.prog) 44 52 .i64 Try.underlying44 hi05 2 hsz5 (some ⟨g, 0, none⟩) n c (i : Int) (by omega) (by omega)
        have hto := cut_to (P := Try.prog) 44 52 .i64 Try.underlying44 hi05 (some ⟨g, 0, none⟩) n c (i : Int) (by omega) (by omega) HCC.out
        have a1 : (⟨g, 0, none⟩ : Addr).add (i * 2) = ⟨g, i * 2, none⟩ := by unfold Addr.add; split <;> simp_all
        rw [Int.toNat_natCast] at hto hfr
        rw [if_neg (by have := HCC.out; omega), Option.map_some, a1] at hfr
        obtain ⟨m, hm⟩ : ∃ m, m = n - i := ⟨_, rfl⟩
        obtain ⟨cm, hcm⟩ : ∃ m, m = c - i := ⟨_, rfl⟩
        rw [← hm, ← hcm] at hfr
        obtain ⟨Z, hZ⟩ : ∃ Z, Z = (Builtin.zeroCells (Value.agg #[.int .i64 0, .int .i64 0]).cells m).toList := ⟨_, rfl⟩
        have hcl : ∀ ty, (Builtin.clear_ #[44] ty #[.slice (some ⟨g, i * 2, none⟩) m cm]).run Try.prog wr = .ok (.tuple #[]) (wr.setCells g (i * 2) Z) := fun ty => by
          rw [hZ]
          refine run_clear_k wr 44 52 ty (Value.agg #[.int .i64 0, .int .i64 0]) Try.underlying44 (fun _ => by kernel_rfl) (by decide) (by decide) g (i * 2) m cm (by omega) (fun q hq => ?_) (fun q _ => Sep.free HS.out _)
          have hq2 : q < m * 2 := hq
          rw [Sep.cell HS.out, Array.getElem?_eq_getElem (by omega)]
          rfl
        have HRR := Aside0.mk (show Kd.R k52 52 (wr.setCells g (i * 2) Z) w0.heap.size (fun _ => True) (.slice (some ⟨g, 0, none⟩) i c) (l.filter (inR fr tl)) from by
          obtain ⟨cs', h1, h2, h3⟩ := setCells_blk Z (i * 2) wr cs (Sep.blk HS.out)
          refine R_of_box h1 HS.out.ge hfn (by have := HCC.out; omega) HSZ.out.1 (by rw [h2]; exact HJ.out.2.2.2.2.2.2.2) fun q hq => ?_
          have hqm : q < M.length := by rw [HJ.out.2.1]; omega
          have e : (l.filter (inR fr tl))[q]'hq = M[q] := by
            have := List.getElem_of_eq hfl hq
            rw [this, List.getElem_take]
          rw [e, h3 _ (by omega), h3 _ (by omega)]
          exact HJ.out.2.2.2.2.1 q hqm)
        have HBZ := Aside0.mk (below_setCells (HS.out.ge) Z (i * 2) _ HB.out)
        have c7 := eq_true (show i ≤ n by omega)
        have c8 := eq_true (show (i : Int) ≤ (n : Int) by omega)
        have c9 := eq_true (show 0 ≤ (i : Int) by omega)
        clear hlt hjn hin hfl hfn hcz hi05 hsz5 hm hcm hZ a1
        go_wp2
        go_ret
        exact ⟨_, by first | rfl | simp, HRR.out, HBZ.out⟩
end Go.Proofs.Ythkpnnbjcendcaa.Sc
namespace Go.Proofs.Ythkpnnbjcendcaa.Pure
/-- A series' points of chunks, from a time up to another one. -/
def rangeL (l : List S109) (id fr tl : Int) : List S52 := match l.findIdx? (fun x => x.f0 == id) with
  | none => []
  | some k => (rd_T109 l (k : Int)).f1.filter (inR fr tl)
end Go.Proofs.Ythkpnnbjcendcaa.Pure
namespace Go.Proofs.Ythkpnnbjcendcaa.Sc
theorem clonep_n (A0 : Option Addr) (c0 n : Nat) (l0 : List S52) (w : World) (hn : l0.length = n) (hr0 : Kd.C k52 w A0 n l0) (hc0 : n ≤ c0) (hl : n < 8796093022208) :
    Calls Try.prog 84 #[.slice A0 n c0] w fun e w' => ∃ v, e = .returned v ∧ Kd.R k52 52 w' w.heap.size (fun _ => True) v l0 ∧ Below w.heap.size w w' := by
  subst hn
  refine api_Point_84.calls A0 c0 l0 l0 w hr0 hc0 ?_
  unfold api_Point_84.f
  simp only [Option.bind_some, List.length_nil, List.nil_append]
  rw [if_pos (by omega)]
set_option maxHeartbeats 8000000 in
set_option maxRecDepth 100000 in
theorem range_calls (A0 : Option Addr) (c0 : Nat) (l0 : List S109) (id fr tl : Int) (w : World) (hr0 : Kd.C k109 w A0 l0.length l0) (hc0 : l0.length ≤ c0) (hl : l0.length < 1000000000) (hp : ∀ x ∈ l0, x.f1.length < 1000000000) :
    Calls Try.prog 48 #[.slice A0 l0.length c0, .int .i64 id, .int .i64 fr, .int .i64 tl] w fun e w' => ∃ v, e = .returned v ∧ Kd.R k52 52 w' w.heap.size (fun _ => True) v (rangeL l0 id fr tl) ∧ Below w.heap.size w w' := by
  have HB := Aside0.mk (Below.refl w.heap.size w)
  have HS := Aside0.mk (Sep.nil w.heap.size w)
  have HR := Aside0.mk hr0
  have HC := Aside0.mk hc0
  have HL := Aside0.mk (show l0.length < 4611686018427387904 by omega)
  have hmf : ∀ (fn : Fn) (first cap : Array Value) (w : World), (Instr.makeFunc fn first cap).run Try.prog w = .ok (.func fn first cap) w := fun _ _ _ _ => rfl
  rcases hi : l0.findIdx? (fun x => x.f0 == id) with _ | k
  · have HI := Aside0.mk (show idxI (fun x : S109 => x.f0 == id) l0 = -1 by unfold idxI; rw [hi])
    have HE := Aside0.mk (show rangeL l0 id fr tl = [] by unfold rangeL; rw [hi])
    clear hi hr0 hc0 hl hp
    go_enter Try.func48, Try.ntmps48
    go_wp2_with (first
      | ((with_reducible refine gate_dst (N := 5) rfl ?_); (try (refine gate_guard (by rfl) ?_; dsimp only)); refine box_event ?hg (N := 5) ?hd (cs := #[.int .i64 id]) (t := 3) ?hr ?_; (case hd => rfl); (case hg => rfl); (case hr => first | (go_simp; done) | (go_simp; rfl)); intro g1 hg w1 hbox hb; have n0_ := Aside0.mk (below_step (by repeat (first | (with_reducible first | exact HB.out | apply below_alloc | apply pw_below_drewN | apply below_drew1) | exact HB.out)) hb); have n1_ := Aside0.mk (Sep.newbox (by repeat (first | (with_reducible first | exact HS.out | apply sep_alloc | apply sep_drewN | apply sep_drew) | exact HS.out)) hb (Nat.le_of_eq hg.symm) (below_size (by repeat (first | (with_reducible first | exact HB.out | apply below_alloc | apply pw_below_drewN | apply below_drew1) | exact HB.out))) hbox); clear HB HS; have HB := n0_; have HS := n1_; clear n0_ n1_ hb hbox hg)
      | ((with_reducible refine gate_dst (N := 6) rfl ?_); (try (refine gate_guard (by rfl) ?_; dsimp only)); refine box_event ?hg (N := 6) ?hd (cs := #[.int .i64 fr]) (t := 3) ?hr ?_; (case hd => rfl); (case hg => rfl); (case hr => first | (go_simp; done) | (go_simp; rfl)); intro g2 hg w2 hbox hb; have n0_ := Aside0.mk (below_step (by repeat (first | (with_reducible first | exact HB.out | apply below_alloc | apply pw_below_drewN | apply below_drew1) | exact HB.out)) hb); have n1_ := Aside0.mk (Sep.newbox (by repeat (first | (with_reducible first | exact HS.out | apply sep_alloc | apply sep_drewN | apply sep_drew) | exact HS.out)) hb (Nat.le_of_eq hg.symm) (below_size (by repeat (first | (with_reducible first | exact HB.out | apply below_alloc | apply pw_below_drewN | apply below_drew1) | exact HB.out))) hbox); clear HB HS; have HB := n0_; have HS := n1_; clear n0_ n1_ hb hbox hg)
      | ((with_reducible refine gate_dst (N := 7) rfl ?_); (try (refine gate_guard (by rfl) ?_; dsimp only)); refine box_event ?hg (N := 7) ?hd (cs := #[.int .i64 tl]) (t := 3) ?hr ?_; (case hd => rfl); (case hg => rfl); (case hr => first | (go_simp; done) | (go_simp; rfl)); intro g3 hg w3 hbox hb; have n0_ := Aside0.mk (below_step (by repeat (first | (with_reducible first | exact HB.out | apply below_alloc | apply pw_below_drewN | apply below_drew1) | exact HB.out)) hb); have n1_ := Aside0.mk (Sep.newbox (by repeat (first | (with_reducible first | exact HS.out | apply sep_alloc | apply sep_drewN | apply sep_drew) | exact HS.out)) hb (Nat.le_of_eq hg.symm) (below_size (by repeat (first | (with_reducible first | exact HB.out | apply below_alloc | apply pw_below_drewN | apply below_drew1) | exact HB.out))) hbox); clear HB HS; have HB := n0_; have HS := n1_; clear n0_ n1_ hb hbox hg)
      | (go_at_call 81; ((with_reducible refine (idxc_calls g1 id A0 c0 l0 _ (Kd.C_below HR.out HB.out) HC.out HL.out (Sep.c10 HS.out.p3)).mono ?_); rintro e w4 ⟨rfl, hb⟩; rw [HI.out]; have n0_ := Aside0.mk (below_step (by repeat (first | (with_reducible first | exact HB.out | apply below_alloc | apply pw_below_drewN | apply below_drew1) | exact HB.out)) hb); have n1_ := Aside0.mk (Sep.below (by repeat (first | (with_reducible first | exact HS.out | apply sep_alloc | apply sep_drewN | apply sep_drew) | exact HS.out)) hb); clear HB HS; have HB := n0_; have HS := n1_; clear n0_ n1_ hb)))
    go_ret
    rw [HE.out]
    exact ⟨_, rfl, Kd.R_nil _ _ _ _ _, HB.out⟩
  · obtain ⟨hk, -⟩ := List.findIdx?_eq_some_iff_getElem.1 hi
    have HI := Aside0.mk (show idxI (fun x : S109 => x.f0 == id) l0 = (k : Int) by unfold idxI; rw [hi])
    have hneg : decide ((k : Int) < 0) = false := decide_eq_false (by omega)
    obtain ⟨ad, A1, c1, e1, _, hx1, hl1, hC1⟩ := at_T109 hr0 (k : Int) (by omega) (by omega)
    cases e1
    obtain ⟨ps, hps⟩ : ∃ p, p = (rd_T109 l0 (k : Int)).f1 := ⟨_, rfl⟩
    have hpl : (rd_T109 l0 (k : Int)).f1.length < 1000000000 := hp _ (by unfold rd_T109; rw [Int.toNat_natCast, getD_lt _ _ _ hk]; exact List.getElem_mem _)
    rw [Int.toNat_natCast] at hx1
    rw [← hps] at hx1 hl1 hC1 hpl
    obtain ⟨n1, hn1⟩ : ∃ n, n = ps.length := ⟨_, rfl⟩
    rw [← hn1] at hx1 hl1 hC1 hpl
    have HE := Aside0.mk (show rangeL l0 id fr tl = ps.filter (inR fr tl) by unfold rangeL; rw [hi, hps])
    have HX := Aside0.mk hx1
    have HXB := Aside0.mk (World.block_lt_of_cell? w _ hx1)
    have HC1 := Aside0.mk hC1
    have HL1 := Aside0.mk hl1
    have HPL := Aside0.mk hpl
    have HN1 := Aside0.mk hn1.symm
    have c4 := eq_true hk
    have c5 := eq_true (show (k : Int) < (l0.length : Int) by omega)
    have c6 := eq_true (show 0 ≤ (k : Int) by omega)
    clear hi hr0 hc0 hl hp hx1 hl1 hC1 hpl hn1 hps hk
    go_enter Try.func48, Try.ntmps48
    go_wp2_with (first
      | ((with_reducible refine gate_dst (N := 5) rfl ?_); (try (refine gate_guard (by rfl) ?_; dsimp only)); refine box_event ?hg (N := 5) ?hd (cs := #[.int .i64 id]) (t := 3) ?hr ?_; (case hd => rfl); (case hg => rfl); (case hr => first | (go_simp; done) | (go_simp; rfl)); intro g1 hg w1 hbox hb; have n0_ := Aside0.mk (below_step (by repeat (first | (with_reducible first | exact HB.out | apply below_alloc | apply pw_below_drewN | apply below_drew1) | exact HB.out)) hb); have n1_ := Aside0.mk (Sep.newbox (by repeat (first | (with_reducible first | exact HS.out | apply sep_alloc | apply sep_drewN | apply sep_drew) | exact HS.out)) hb (Nat.le_of_eq hg.symm) (below_size (by repeat (first | (with_reducible first | exact HB.out | apply below_alloc | apply pw_below_drewN | apply below_drew1) | exact HB.out))) hbox); clear HB HS; have HB := n0_; have HS := n1_; clear n0_ n1_ hb hbox hg)
      | ((with_reducible refine gate_dst (N := 6) rfl ?_); (try (refine gate_guard (by rfl) ?_; dsimp only)); refine box_event ?hg (N := 6) ?hd (cs := #[.int .i64 fr]) (t := 3) ?hr ?_; (case hd => rfl); (case hg => rfl); (case hr => first | (go_simp; done) | (go_simp; rfl)); intro g2 hg w2 hbox hb; have n0_ := Aside0.mk (below_step (by repeat (first | (with_reducible first | exact HB.out | apply below_alloc | apply pw_below_drewN | apply below_drew1) | exact HB.out)) hb); have n1_ := Aside0.mk (Sep.newbox (by repeat (first | (with_reducible first | exact HS.out | apply sep_alloc | apply sep_drewN | apply sep_drew) | exact HS.out)) hb (Nat.le_of_eq hg.symm) (below_size (by repeat (first | (with_reducible first | exact HB.out | apply below_alloc | apply pw_below_drewN | apply below_drew1) | exact HB.out))) hbox); clear HB HS; have HB := n0_; have HS := n1_; clear n0_ n1_ hb hbox hg)
      | ((with_reducible refine gate_dst (N := 7) rfl ?_); (try (refine gate_guard (by rfl) ?_; dsimp only)); refine box_event ?hg (N := 7) ?hd (cs := #[.int .i64 tl]) (t := 3) ?hr ?_; (case hd => rfl); (case hg => rfl); (case hr => first | (go_simp; done) | (go_simp; rfl)); intro g3 hg w3 hbox hb; have n0_ := Aside0.mk (below_step (by repeat (first | (with_reducible first | exact HB.out | apply below_alloc | apply pw_below_drewN | apply below_drew1) | exact HB.out)) hb); have n1_ := Aside0.mk (Sep.newbox (by repeat (first | (with_reducible first | exact HS.out | apply sep_alloc | apply sep_drewN | apply sep_drew) | exact HS.out)) hb (Nat.le_of_eq hg.symm) (below_size (by repeat (first | (with_reducible first | exact HB.out | apply below_alloc | apply pw_below_drewN | apply below_drew1) | exact HB.out))) hbox); clear HB HS; have HB := n0_; have HS := n1_; clear n0_ n1_ hb hbox hg)
      | (go_at_call 81; ((with_reducible refine (idxc_calls g1 id (some ad) c0 l0 _ (Kd.C_below HR.out HB.out) HC.out HL.out (Sep.c10 HS.out.p3)).mono ?_); rintro e w4 ⟨rfl, hb⟩; rw [HI.out]; have n0_ := Aside0.mk (below_step (by repeat (first | (with_reducible first | exact HB.out | apply below_alloc | apply pw_below_drewN | apply below_drew1) | exact HB.out)) hb); have n1_ := Aside0.mk (Sep.below (by repeat (first | (with_reducible first | exact HS.out | apply sep_alloc | apply sep_drewN | apply sep_drew) | exact HS.out)) hb); clear HB HS; have HB := n0_; have HS := n1_; clear n0_ n1_ hb; have hx1 := (HB.out.cell HXB.out).trans HX.out))
      | (go_at_call 84; ((with_reducible refine (clonep_n A1 c1 n1 ps _ HN1.out (Kd.C_below HC1.out HB.out) HL1.out (by have := HPL.out; omega)).mono ?_); rintro e w5 ⟨v, rfl, ho, hb⟩; clear hx1; obtain ⟨A2, c2, e_⟩ := Kd.R_slice ho; rw [HN1.out] at e_; subst e_; obtain ⟨F2, hs_⟩ := Sep.newrow (by repeat (first | (with_reducible first | exact HS.out | apply sep_alloc | apply sep_drewN | apply sep_drew) | exact HS.out)) hb (below_size (by repeat (first | (with_reducible first | exact HB.out | apply below_alloc | apply pw_below_drewN | apply below_drew1) | exact HB.out))) ho; have n0_ := Aside0.mk (below_step (by repeat (first | (with_reducible first | exact HB.out | apply below_alloc | apply pw_below_drewN | apply below_drew1) | exact HB.out)) hb); clear HB HS hb ho; have HB := n0_; have HS := Aside0.mk hs_; clear n0_ hs_))
      | (go_at_call 83; ((with_reducible refine (delf_calls g2 g3 fr tl F2 A2 c2 n1 ps w _ HN1.out HB.out HS.out.drop4 HPL.out).mono ?_); rintro e w6 ⟨v, rfl, hv, hb⟩; have HV := Aside0.mk hv; have n0_ := Aside0.mk hb; clear HB HS hv hb; have HB := n0_; clear n0_)))
    go_ret
    rw [HE.out]
    exact ⟨_, rfl, HV.out, HB.out⟩
end Go.Proofs.Ythkpnnbjcendcaa.Sc
namespace Go.Proofs.Ythkpnnbjcendcaa.X
end Go.Proofs.Ythkpnnbjcendcaa.X

