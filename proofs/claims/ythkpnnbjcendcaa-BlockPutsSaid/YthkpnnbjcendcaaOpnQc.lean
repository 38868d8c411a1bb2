/- Any argument of a law (integers, bools, strings, slices, structs, arrays, nested) read as a value of its kind: the words that the rows of laws use. Plain theorems over any program. -/
import Derived.Test.YthkpnnbjcendcaaWWordsQc
import Derived.Deep.Slices
import Derived.ChangeArms
import Derived.ChangeSlices
import Derived.SizedLaws
namespace Go.Proofs.Ythkpnnbjcendcaa.Opn
open Go.RowKit Go.Proofs.YthkpnnbjcendcaaW.PrintWords Go.ChangeShapes Go.WideShapes Go.Deep

/-- What is read at type t is a value of the kind d, of which W holds. -/
def Opens (P : Program) {α : Type} (d : Kd α) (t : TypeId) (W : α → Prop) : Prop :=
  ∀ (H : Type) (enc : TypeId × Value → H) (w : World) (base : Nat) (spare : Nat → Bool) (held : Bool) (fuel : Nat) (cs : List Value) (x : DataW H × List MemPlace),
    DataW.trod enc P w base spare held fuel t cs = some x → (∀ n ∈ x.1.weights P t, n ≤ 140737488351232) → ∃ y : α, d.K w y cs ∧ W y

theorem opens_int {P : Program} {t : TypeId} {k : IntKind} (ht : P.underlying t = some (.int k)) : Opens P (Kd.int k) t (fun y => (Lit.int k y).wf = true) := by
  intro H enc w base spare held fuel cs x h _
  cases fuel with
  | zero => simp [DataW.trod] at h
  | succ n =>
    unfold DataW.trod at h
    rw [ht] at h
    split at h <;> simp_all
    obtain ⟨⟨rfl, hw⟩, _⟩ := h
    exact ⟨_, rfl, hw⟩
theorem list_of {α : Type} {p : Nat → α → Prop} : ∀ (n : Nat), (∀ i, i < n → ∃ y, p i y) → ∃ ys : List α, ys.length = n ∧ ∀ i y, ys[i]? = some y → p i y
  | 0, _ => ⟨[], rfl, fun i y h => by simp at h⟩
  | n + 1, h => by
    obtain ⟨ys, hl, hy⟩ := list_of n (fun i hi => h i (Nat.lt_succ_of_lt hi))
    obtain ⟨z, hz⟩ := h n (Nat.lt_succ_self n)
    refine ⟨ys ++ [z], by simp [hl], fun i y hi => ?_⟩
    by_cases hlt : i < n
    · rw [List.getElem?_append_left (by omega)] at hi
      exact hy i y hi
    · have hn : i = n := by
        have := (List.getElem?_eq_some_iff.1 hi).1
        simp [hl] at this
        omega
      subst hn
      rw [List.getElem?_append_right (by omega), hl] at hi
      simp at hi
      exact hi ▸ hz

theorem weightsAll_mem {H : Type} {P : Program} {e : TypeId} : ∀ {ds : List (DataW H)} {d : DataW H}, d ∈ ds → ∀ n ∈ d.weights P e, n ∈ DataW.weightsAll P e ds
  | d0 :: ds, d, hd, n, hn => by
    simp only [DataW.weightsAll, List.mem_append]
    rcases List.mem_cons.1 hd with rfl | hd
    · exact Or.inl hn
    · exact Or.inr (weightsAll_mem hd n hn)

theorem opens_slice {P : Program} {t e : TypeId} {α : Type} {d : Kd α} {W : α → Prop} {B : Nat} (ht : P.underlying t = some (.slice e)) (hE : Opens P d e W) (hC : P.cellsOf e = d.sz) (hB : P.bytesOf e = B) :
    Opens P (Kd.slice e d) t (fun ys => ys.length * B ≤ 140737488351232 ∧ ∀ y ∈ ys, W y) := by
  intro H enc w base spare held fuel cs x h hz
  rcases open_slice ht h with ⟨rfl, _⟩ | ⟨a, len, cap, m, n, D, Pl, rfl, hb, hl, hm, hmm, hx, hi⟩
  · exact ⟨[], ⟨none, 0, rfl, Nat.le_refl _, rfl, by simp, fun h0 => absurd h0 (by simp)⟩, by simp, by simp⟩
  · have hlm : len ≤ m := by rw [hmm]; split <;> omega
    have hw : ∀ i, i < len → ∀ q ∈ (D i).weights P e, q ≤ 140737488351232 := by
      intro i hi' q hq
      refine hz q ?_
      rw [hx]
      simp only [DataW.weights, ht, List.mem_cons, List.mem_append]
      exact Or.inr (Or.inl (weightsAll_mem (List.mem_map.2 ⟨i, List.mem_range.2 hi', rfl⟩) q hq))
    have hlen : len * B ≤ 140737488351232 := by
      have := hz ((((List.range len).map D).length + ((List.range (m - len)).map fun j => D (len + j)).length) * P.bytesOf e) (by rw [hx]; simp only [DataW.weights, ht]; exact List.mem_cons_self)
      rw [hB] at this
      simp only [List.length_map, List.length_range] at this
      exact Nat.le_trans (Nat.mul_le_mul_right _ (by omega)) this
    obtain ⟨ys, hyl, hy⟩ := list_of (p := fun i y => ∃ c : List Value, c.length = d.sz ∧ d.K w y c ∧ (∀ j u, c[j]? = some u → w.cell? (a.add (i * d.sz + j)) = some u) ∧ W y) len (fun i hi' => by
      obtain ⟨cs', hc, ht'⟩ := hi i (by omega)
      obtain ⟨y, hK, hW⟩ := hE H enc w base spare held n cs' _ ht' (hw i hi')
      obtain ⟨_, hcl, hat⟩ := World.cells?_some hc
      rw [hC] at hcl hat
      refine ⟨y, cs', hcl, hK, fun j u hu => ?_, hW⟩
      have hj : j < d.sz := by have := (List.getElem?_eq_some_iff.1 hu).1; omega
      rw [← Deep.add_add, hat j hj, hu])
    refine ⟨ys, ⟨some a, cap, by rw [hyl], by omega, ?_⟩, by rw [hyl]; exact hlen, fun y hm' => ?_⟩
    · refine ⟨rfl, by rw [hyl]; unfold maxLen at hm; omega, fun _ => ⟨a, rfl, fun j p hp => ?_⟩⟩
      obtain ⟨c, h1, h2, h3, _⟩ := hy j p hp
      exact ⟨c, h1, h2, h3⟩
    · obtain ⟨i, hi', rfl⟩ := List.getElem_of_mem hm'
      obtain ⟨_, _, _, _, hW⟩ := hy i _ (List.getElem?_eq_getElem hi')
      exact hW

/-- The same of a struct's fields, from a place on. -/
def OpensF (P : Program) {α : Type} (d : Kd α) (fs : List Field) (o : Nat) (W : α → Prop) : Prop :=
  ∀ (H : Type) (enc : TypeId × Value → H) (w : World) (base : Nat) (spare : Nat → Bool) (held : Bool) (fuel : Nat) (cs : List Value),
    (∀ f ∈ fs, ∃ x : DataW H × List MemPlace, DataW.trod enc P w base spare held fuel f.type ((cs.drop f.offset).take (P.cellsOf f.type)) = some x ∧ ∀ n ∈ x.1.weights P f.type, n ≤ 140737488351232) →
    ∃ y : α, d.K w y ((cs.drop o).take d.sz) ∧ W y
theorem opensF_last {P : Program} {α : Type} {d : Kd α} {f : Field} {o : Nat} {W : α → Prop} (hE : Opens P d f.type W) (ho : f.offset = o) (hC : P.cellsOf f.type = d.sz) : OpensF P d [f] o W := by
  intro H enc w base spare held fuel cs h
  obtain ⟨x, hx, hz⟩ := h f List.mem_cons_self
  rw [ho, hC] at hx
  exact hE H enc w base spare held fuel _ x hx hz
theorem opensF_cons {P : Program} {α β : Type} {a : Kd α} {b : Kd β} {f : Field} {fs : List Field} {o o' : Nat} {Wa : α → Prop} {Wb : β → Prop} (hE : Opens P a f.type Wa) (ho : f.offset = o) (hC : P.cellsOf f.type = a.sz)
    (hR : OpensF P b fs o' Wb) (ho' : o + a.sz = o') : OpensF P (Kd.pair a b) (f :: fs) o (fun x => Wa x.1 ∧ Wb x.2) := by
  intro H enc w base spare held fuel cs h
  obtain ⟨x, hx, hz⟩ := h f List.mem_cons_self
  rw [ho, hC] at hx
  obtain ⟨y, hy, hW⟩ := hE H enc w base spare held fuel _ x hx hz
  obtain ⟨z, hz', hW'⟩ := hR H enc w base spare held fuel cs (fun f hf => h f (List.mem_cons_of_mem _ hf))
  refine ⟨(y, z), ⟨_, _, ?_, hy, hz'⟩, hW, hW'⟩
  show (cs.drop o).take (a.sz + b.sz) = _
  rw [List.take_add, List.drop_drop, ← ho']
theorem opens_struct {P : Program} {t : TypeId} {fs : Array Field} {α : Type} {d : Kd α} {W : α → Prop} (ht : P.underlying t = some (.struct fs)) (hF : OpensF P d fs.toList 0 W) (hC : P.cellsOf t = d.sz) : Opens P d t W := by
  intro H enc w base spare held fuel cs x h hz
  obtain ⟨xs, n, rfl, rfl, hl, hxl, hf⟩ := DataW.trod_struct ht h
  obtain ⟨y, hy, hW⟩ := hF H enc w base spare held n cs (fun f hm => by
    obtain ⟨i, hi, rfl⟩ := List.getElem_of_mem hm
    have hi' : i < fs.size := by simpa using hi
    have hget : fs[i]? = some (fs.toList[i]'hi) := by simp [Array.getElem?_eq_getElem hi']
    have h1 := hf i _ hget
    have hx' : xs[i]? = some (xs[i]'(by omega)) := List.getElem?_eq_getElem (by omega)
    refine ⟨_, h1.trans hx', fun q hq => hz q ?_⟩
    simp only [DataW.weights, ht]
    exact DataW.weights_mem_each (j := i) (by simp [List.getElem?_map, List.getElem?_eq_getElem hi]) (by simp [List.getElem?_map, hx']) q hq)
  refine ⟨y, ?_, hW⟩
  rwa [List.drop_zero, List.take_of_length_le (by omega)] at hy
theorem opens_iso {P : Program} {t : TypeId} {α β : Type} {d : Kd α} {W : α → Prop} (f : β → α) (g : α → β) (hg : ∀ y, f (g y) = y) (h : Opens P d t W) : Opens P (Kd.iso d f) t (fun y => W (f y)) := by
  intro H enc w base spare held fuel cs x hx hz
  obtain ⟨y, hy, hW⟩ := h H enc w base spare held fuel cs x hx hz
  exact ⟨g y, by show d.K w (f (g y)) cs; rw [hg]; exact hy, by show W (f (g y)); rw [hg]; exact hW⟩
/-- An array of three whole numbers. -/
theorem opens_array3 {P : Program} {t e : TypeId} {k : IntKind} (ht : P.underlying t = some (.array 3 e)) (he : P.underlying e = some (.int k)) (hC : P.cellsOf e = 1) (hC' : P.cellsOf t = 3) :
    Opens P (Kd.pair (Kd.int k) (Kd.pair (Kd.int k) (Kd.int k))) t (fun y => (Lit.int k y.1).wf = true ∧ (Lit.int k y.2.1).wf = true ∧ (Lit.int k y.2.2).wf = true) := by
  intro H enc w base spare held fuel cs x h _
  cases fuel with
  | zero => simp [DataW.trod] at h
  | succ n =>
    unfold DataW.trod at h
    rw [ht] at h
    have r3 : List.range 3 = [0, 1, 2] := rfl
    simp only [r3, hC, hC'] at h
    split at h
    · rename_i hl
      match cs, hl with
      | [c0, c1, c2], _ =>
        simp at h
        cases h0 : DataW.trod enc P w base spare held n e [c0] with
        | none => simp [h0] at h
        | some y0 =>
          cases h1 : DataW.trod enc P w base spare held n e [c1] with
          | none => simp [h0, h1] at h
          | some y1 =>
            cases h2 : DataW.trod enc P w base spare held n e [c2] with
            | none => simp [h0, h1, h2] at h
            | some y2 =>
              have hw : ∀ (y : DataW H × List MemPlace) (c : Value), DataW.trod enc P w base spare held n e [c] = some y → ∀ q ∈ y.1.weights P e, q ≤ 140737488351232 := by
                intro y c hc q hq
                cases n with
                | zero => simp [DataW.trod] at hc
                | succ n =>
                  unfold DataW.trod at hc
                  rw [he] at hc
                  split at hc <;> simp_all
                  obtain ⟨_, rfl⟩ := hc
                  simp [DataW.weights] at hq
              obtain ⟨a0, ha0, hw0⟩ := opens_int he H enc w base spare held n _ _ h0 (hw _ _ h0)
              obtain ⟨a1, ha1, hw1⟩ := opens_int he H enc w base spare held n _ _ h1 (hw _ _ h1)
              obtain ⟨a2, ha2, hw2⟩ := opens_int he H enc w base spare held n _ _ h2 (hw _ _ h2)
              exact ⟨(a0, a1, a2), ⟨[c0], [c1, c2], rfl, ha0, [c1], [c2], rfl, ha1, ha2⟩, hw0, hw1, hw2⟩
    · simp at h
/-- An argument of a row: its datum's weights are bounded by the row's. -/
theorem opens_arg {P : Program} {α : Type} {d : Kd α} {t : TypeId} {W : α → Prop} (h : Opens P d t W) {H : Type} {enc : TypeId × Value → H} {w : World} {base : Nat} {spare : Nat → Bool} {held : Bool} {v : Value} {x : DataW H} {ps : List MemPlace} {ts : List TypeId} {ds : List (DataW H)} {j : Nat}
    (hsz : (DataW.weightsEach P ts ds).all (· ≤ reachBytes) = true) (ht : ts[j]? = some t) (hd : ds[j]? = some x) (hT : DataW.Trod enc P w base spare held t v x ps) : ∃ y : α, d.K w y v.cells.toList ∧ W y := by
  obtain ⟨fuel, hf⟩ := hT
  refine h H enc w base spare held fuel _ _ hf (fun n hn => ?_)
  have := List.all_eq_true.1 hsz _ (DataW.weights_mem_each ht hd n hn)
  exact of_decide_eq_true this
end Go.Proofs.Ythkpnnbjcendcaa.Opn

