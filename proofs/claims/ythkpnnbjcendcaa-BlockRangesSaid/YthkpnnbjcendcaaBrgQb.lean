/- block.Range, walked: its function values, IndexFunc, DeleteFunc. -/
import Derived.Test.YthkpnnbjcendcaaGbQb
import Derived.Test.YthkpnnbjcendcaaX72Qb
import Derived.Shelf.Abstract
set_option linter.unusedVariables false
set_option linter.unusedSimpArgs false
open Go.RowKit Go.Proofs.Ythkpnnbjcendcaa.X Go.Proofs.Ythkpnnbjcendcaa.Pl Go.Proofs.Ythkpnnbjcendcaa.Sp Go.Proofs.Ythkpnnbjcendcaa.Pure Go.Proofs.YthkpnnbjcendcaaW.PrintWords Go.Proofs.YthkpnnbjcendcaaW.PrintLast Go.Proofs.YthkpnnbjcendcaaW.PrintMore
namespace Go.Proofs.Ythkpnnbjcendcaa.Pure
/-- The first place at which p holds, or -1. -/
def idxI {α : Type} (p : α → Bool) (l : List α) : Int := match l.findIdx? p with
  | none => -1
  | some i => (i : Int)
theorem idx_hit {α : Type} {p : α → Bool} {l : List α} {i : Nat} (hi : i < l.length) (hp : p l[i] = true) (ha : ∀ j (hj : j < i), p (l[j]'(by omega)) = false) : idxI p l = (i : Int) := by
  have : l.findIdx? p = some i := List.findIdx?_eq_some_iff_getElem.2 ⟨hi, hp, fun j hj => by rw [ha j hj]; simp⟩
  unfold idxI
  rw [this]
theorem idx_miss {α : Type} {p : α → Bool} {l : List α} (ha : ∀ j (hj : j < l.length), p l[j] = false) : idxI p l = -1 := by
  have : l.findIdx? p = none := by
    rw [List.findIdx?_eq_none_iff]
    intro x hx
    obtain ⟨j, hj, rfl⟩ := List.getElem_of_mem hx
    exact ha j hj
  unfold idxI
  rw [this]
/-- A test's answer, as a fact that no simp turns. -/
def IsB (p b : Bool) : Prop := p = b
/-- A point within the times. -/
def inR (fr tl : Int) (p : S52) : Bool := !(decide (p.f0 < fr) || decide (tl < p.f0))
end Go.Proofs.Ythkpnnbjcendcaa.Pure
namespace Go.Proofs.Ythkpnnbjcendcaa.Sc
set_option maxRecDepth 100000 in
theorem rg1_calls (g : Nat) (id x0 : Int) (A1 : Option Addr) (n1 c1 : Nat) (b : Bool) (w : World) (hc : w.cell? ⟨g, 0, none⟩ = some (.int .i64 id)) (hb : IsB (x0 == id) b) :
    Calls Try.prog 82 #[.agg #[.int .i64 x0, .slice A1 n1 c1], .pointer (some ⟨g, 0, none⟩)] w fun e w' => e = .returned (.bool b) ∧ Below w.heap.size w w' := by
  have HB := Aside0.mk (Below.refl w.heap.size w)
  have HS := Aside0.mk (Sep.nil w.heap.size w)
  have HC := Aside0.mk hc
  have HL := Aside0.mk (World.block_lt_of_cell? w _ hc)
  unfold IsB at hb
  clear hc
  go_enter Try.func82, Try.ntmps82
  go_wp2_with (first
    | ((with_reducible refine gate_dst (N := 2) rfl ?_); (try (refine gate_guard (by rfl) ?_; dsimp only)); refine box_event ?hg (N := 2) ?hd (cs := #[.int .i64 x0, .slice A1 n1 c1]) (t := 109) ?hr ?_; (case hd => rfl); (case hg => rfl); (case hr => first | (go_simp; done) | (go_simp; rfl)); intro gx hg w5 hbox hb; have n0_ := Aside0.mk (below_step (by repeat (first | (with_reducible first | exact HB.out | apply below_alloc | apply pw_below_drewN | apply below_drew1) | exact HB.out)) hb); have n1_ := Aside0.mk (Sep.newbox (by repeat (first | (with_reducible first | exact HS.out | apply sep_alloc | apply sep_drewN | apply sep_drew) | exact HS.out)) hb (Nat.le_of_eq hg.symm) (below_size (by repeat (first | (with_reducible first | exact HB.out | apply below_alloc | apply pw_below_drewN | apply below_drew1) | exact HB.out))) hbox); clear HB HS; have HB := n0_; have HS := n1_; clear n0_ n1_ hb hbox hg; have hc0 := Sep.c20 HS.out; have hcg := (HB.out.cell (p := ⟨g, 0, none⟩) HL.out).trans HC.out))
  go_ret
  exact ⟨rfl, HB.out⟩
set_option maxRecDepth 100000 in
theorem rg2_calls (g1 g2 : Nat) (fr tl : Int) (x : S52) (b : Bool) (w : World) (hc1 : w.cell? ⟨g1, 0, none⟩ = some (.int .i64 fr)) (hc2 : w.cell? ⟨g2, 0, none⟩ = some (.int .i64 tl)) (hb : IsB (inR fr tl x) b) :
    Calls Try.prog 85 #[.agg #[.int .i64 x.f0, .int .i64 x.f1], .pointer (some ⟨g1, 0, none⟩), .pointer (some ⟨g2, 0, none⟩)] w fun e w' => e = .returned (.bool (!b)) ∧ Below w.heap.size w w' := by
  have HB := Aside0.mk (Below.refl w.heap.size w)
  have HS := Aside0.mk (Sep.nil w.heap.size w)
  have HC1 := Aside0.mk hc1
  have HC2 := Aside0.mk hc2
  have HL1 := Aside0.mk (World.block_lt_of_cell? w _ hc1)
  have HL2 := Aside0.mk (World.block_lt_of_cell? w _ hc2)
  obtain ⟨t, ht⟩ : ∃ t, t = x.f0 := ⟨_, rfl⟩
  obtain ⟨v, hv⟩ : ∃ t, t = x.f1 := ⟨_, rfl⟩
  unfold IsB inR at hb
  rw [← ht] at hb ⊢
  rw [← hv]
  have hcs : (decide (t < fr) = true ∧ b = false) ∨ (decide (t < fr) = false ∧ decide (tl < t) = !b) := by
    by_cases h : t < fr
    · exact .inl ⟨decide_eq_true h, by rw [← hb, decide_eq_true h]; rfl⟩
    · refine .inr ⟨decide_eq_false h, ?_⟩
      rw [← hb, decide_eq_false h]
      simp
  clear hc1 hc2 hb ht hv
  rcases hcs with ⟨h1, rfl⟩ | ⟨h1, h2⟩
  all_goals (
    go_enter Try.func85, Try.ntmps85
    go_wp2_with (first
      | ((with_reducible refine gate_dst (N := 3) rfl ?_); (try (refine gate_guard (by rfl) ?_; dsimp only)); refine box_event ?hg (N := 3) ?hd (cs := #[.int .i64 t, .int .i64 v]) (t := 52) ?hr ?_; (case hd => rfl); (case hg => rfl); (case hr => first | (go_simp; done) | (go_simp; rfl)); intro gx hg w5 hbox hb; have n0_ := Aside0.mk (below_step (by repeat (first | (with_reducible first | exact HB.out | apply below_alloc | apply pw_below_drewN | apply below_drew1) | exact HB.out)) hb); have n1_ := Aside0.mk (Sep.newbox (by repeat (first | (with_reducible first | exact HS.out | apply sep_alloc | apply sep_drewN | apply sep_drew) | exact HS.out)) hb (Nat.le_of_eq hg.symm) (below_size (by repeat (first | (with_reducible first | exact HB.out | apply below_alloc | apply pw_below_drewN | apply below_drew1) | exact HB.out))) hbox); clear HB HS; have HB := n0_; have HS := n1_; clear n0_ n1_ hb hbox hg; have hc0 := Sep.c20 HS.out; have hcg := (HB.out.cell (p := ⟨g1, 0, none⟩) HL1.out).trans HC1.out; have hch := (HB.out.cell (p := ⟨g2, 0, none⟩) HL2.out).trans HC2.out))
    go_ret
    exact ⟨by first | rfl | simp, HB.out⟩)
set_option maxHeartbeats 8000000 in
set_option maxRecDepth 100000 in
theorem idxc_calls (g : Nat) (id : Int) (A0 : Option Addr) (c0 : Nat) (l0 : List S109) (w : World) (hr0 : Kd.C k109 w A0 l0.length l0) (hc0 : l0.length ≤ c0) (hl : l0.length < 4611686018427387904) (hc : w.cell? ⟨g, 0, none⟩ = some (.int .i64 id)) :
    Calls Try.prog 81 #[.slice A0 l0.length c0, .func (.func 82) #[] #[.pointer (some ⟨g, 0, none⟩)]] w fun e w' => e = .returned (.int .i64 (idxI (fun x => x.f0 == id) l0)) ∧ Below w.heap.size w w' := by
  have HB := Aside0.mk (Below.refl w.heap.size w)
  have HR := Aside0.mk hr0
  have HL := Aside0.mk hl
  have HC := Aside0.mk hc
  have HG := Aside0.mk (World.block_lt_of_cell? w _ hc)
  have eg := enters_of Try.func82 (by kernel_rfl) rfl
  clear hr0 hc0 hl hc
  go_enter Try.func81, Try.ntmps81
  go_wp2
  go_loopg [5, 8] l0.length (fun kq _ v8 w' => ∃ i : Nat, v8 = .int .i64 (i : Int) ∧ Aside0 (kq + i = l0.length ∧ ∀ j (hj : j < l0.length), j < i → (l0[j].f0 == id) = false) ∧ Aside0 (Below w.heap.size w w'))
  case atStart => exact ⟨0, rfl, ⟨by omega, fun j _ hj => absurd hj (Nat.not_lt_zero _)⟩, HB⟩
  case round =>
    clear HB
    obtain ⟨i, rfl, HI, HB⟩ := hrel
    by_cases hlt : i < l0.length
    · obtain ⟨k1, rfl⟩ : ∃ q, gk = q + 1 := ⟨gk - 1, by have := HI.out.1; omega⟩
      have c1b : decide ((i : Int) < (l0.length : Int)) = true := decide_eq_true (by omega)
      have c1n : decide (i < l0.length) = true := decide_eq_true hlt
      have hnx : wrap64 ((i : Int) + 1) = ((i + 1 : Nat) : Int) := by have := HL.out; rw [w64 (by omega) (by omega)]; simp
      obtain ⟨ad, A1, c1, e1, hx0, hx1, _, _⟩ := at_T109 HR.out (i : Int) (by omega) (by omega)
      cases e1
      rw [Int.toNat_natCast] at hx0 hx1
      replace hx0 := (HB.out.cell (World.block_lt_of_cell? w _ hx0)).trans hx0
      replace hx1 := (HB.out.cell (World.block_lt_of_cell? w _ hx1)).trans hx1
      obtain ⟨p, hp⟩ : ∃ p, p = rd_T109 l0 (i : Int) := ⟨_, rfl⟩
      rw [← hp] at hx0 hx1
      have hpe : l0[i] = p := by rw [hp]; unfold rd_T109; rw [Int.toNat_natCast, getD_lt _ _ _ hlt]
      obtain ⟨p0, hp0⟩ : ∃ x, x = p.f0 := ⟨_, rfl⟩
      obtain ⟨n1, hn1⟩ : ∃ x, x = p.f1.length := ⟨_, rfl⟩
      rw [← hp0] at hx0
      rw [← hn1] at hx1
      have HPE := Aside0.mk (show ∀ h : i < l0.length, (l0[i]'h).f0 = p0 from fun _ => by rw [hpe, hp0])
      have HX := Aside0.mk hnx
      have HLT := Aside0.mk hlt
      have c4 := eq_true hlt
      have c5 := eq_true (show (i : Int) < (l0.length : Int) by omega)
      have c6 := eq_true (show 0 ≤ (i : Int) by omega)
      obtain ⟨b, hb⟩ : ∃ b, (p0 == id) = b := ⟨_, rfl⟩
      have HQ := Aside0.mk (show IsB (p0 == id) b from hb)
      clear hnx hlt hp hpe hp0 hn1 hb
      cases b
      · go_wp2_with (go_at_call 82; (refine (rg1_calls g id p0 A1 n1 c1 _ _ ((HB.out.cell (p := ⟨g, 0, none⟩) HG.out).trans HC.out) HQ.out).mono ?_); rintro e w' ⟨rfl, hb⟩; have n0_ := Aside0.mk (below_step HB.out hb); clear HB hb; have HB := n0_; clear n0_)
        go_roundg k1
        case measure => omega
        case rel => exact ⟨i + 1, (by first | rfl | rw [HX.out]), ⟨by have := HI.out.1; omega, fun j hj hji => by
          by_cases e : j = i
          · subst e; rw [HPE.out hj]; exact HQ.out
          · exact HI.out.2 j hj (by omega)⟩, HB⟩
      · go_wp2_with (go_at_call 82; (refine (rg1_calls g id p0 A1 n1 c1 _ _ ((HB.out.cell (p := ⟨g, 0, none⟩) HG.out).trans HC.out) HQ.out).mono ?_); rintro e w' ⟨rfl, hb⟩; have n0_ := Aside0.mk (below_step HB.out hb); clear HB hb; have HB := n0_; clear n0_)
        go_ret
        exact ⟨by rw [idx_hit (p := fun x : S109 => x.f0 == id) HLT.out (by show (_ == id) = true; rw [HPE.out HLT.out]; exact HQ.out) (fun j hj => HI.out.2 j (by have := HLT.out; omega) hj)]; try rfl, HB.out⟩
    · have c1b : decide ((i : Int) < (l0.length : Int)) = false := decide_eq_false (by omega)
      have c1n : decide (i < l0.length) = false := decide_eq_false hlt
      have HM := Aside0.mk (show idxI (fun x : S109 => x.f0 == id) l0 = -1 from idx_miss fun j hj => HI.out.2 j hj (by omega))
      clear hlt
      go_wp2
      go_ret
      exact ⟨by rw [HM.out]; try rfl, HB.out⟩
end Go.Proofs.Ythkpnnbjcendcaa.Sc

