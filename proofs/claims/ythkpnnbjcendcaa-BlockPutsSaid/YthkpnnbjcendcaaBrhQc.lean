/- block.Range, walked: DeleteFunc, Range. -/
import Derived.Test.YthkpnnbjcendcaaBrgQc
import Derived.Lib.SliceRun
set_option linter.unusedVariables false
set_option linter.unusedSimpArgs false
open Go.RowKit Go.Proofs.Ythkpnnbjcendcaa.X Go.Proofs.Ythkpnnbjcendcaa.Pl Go.Proofs.Ythkpnnbjcendcaa.Sp Go.Proofs.Ythkpnnbjcendcaa.Pure Go.Proofs.YthkpnnbjcendcaaW.PrintWords Go.Proofs.YthkpnnbjcendcaaW.PrintLast Go.Proofs.YthkpnnbjcendcaaW.PrintMore
namespace Go.Proofs.Ythkpnnbjcendcaa.Sp
/-- The cells hold these points. -/
def CellsOf (cs : Array Value) (M : List S52) : Prop := ∀ j (h : j < M.length), cs[j * 2]? = some (.int .i64 (M[j]'h).f0) ∧ cs[j * 2 + 1]? = some (.int .i64 (M[j]'h).f1)
theorem CellsOf.set {cs : Array Value} {M : List S52} (h : CellsOf cs M) (i : Nat) (x : S52) (hi : i < M.length) : CellsOf ((cs.setIfInBounds (i * 2) (.int .i64 x.f0)).setIfInBounds (i * 2 + 1) (.int .i64 x.f1)) (M.set i x) := by
  intro j hj
  rw [List.length_set] at hj
  have h1 := (h j hj).1
  have h2 := (h j hj).2
  have b1 := (Array.getElem?_eq_some_iff.1 (h i hi).1).1
  have b2 := (Array.getElem?_eq_some_iff.1 (h i hi).2).1
  rw [List.getElem_set]
  by_cases e : i = j
  · subst e
    rw [if_pos rfl]
    constructor
    · rw [Array.getElem?_setIfInBounds_ne (by omega), Array.getElem?_setIfInBounds_self_of_lt b1]
    · rw [Array.getElem?_setIfInBounds_self_of_lt (by rw [Array.size_setIfInBounds]; exact b2)]
  · rw [if_neg e]
    constructor
    · rw [Array.getElem?_setIfInBounds_ne (by omega), Array.getElem?_setIfInBounds_ne (by omega)]; exact h1
    · rw [Array.getElem?_setIfInBounds_ne (by omega), Array.getElem?_setIfInBounds_ne (by omega)]; exact h2
/-- An own row of points, told by its block's cells. -/
theorem Sep.asbox {base : Nat} {w : World} {F : Nat → Prop} {g n c : Nat} {l : List S52} {rs : List Res} (h : Sep base w (row F k52 52 base (.slice (some ⟨g, 0, none⟩) n c) l :: rs)) {cs : Array Value} (hg : w.heap[g]? = some (.cells cs 52 (0, 0))) (hb : base ≤ g) : Sep base w (box g cs 52 :: rs) :=
  h.call (r' := box g cs 52) (fun _ _ _ => rfl) (Own.box hb hg) (fun k hk => .inl (by
    have hk : k = g := hk
    subst hk
    exact h.R.1 k (by simp [Value.ownBlock])))
end Go.Proofs.Ythkpnnbjcendcaa.Sp
namespace Go.Proofs.Ythkpnnbjcendcaa.Sc
end Go.Proofs.Ythkpnnbjcendcaa.Sc
namespace Go.Proofs.Ythkpnnbjcendcaa.Pure
/-- A series' points of chunks, from a time up to another one. -/
def rangeL (l : List S109) (id fr tl : Int) : List S52 := match l.findIdx? (fun x => x.f0 == id) with
  | none => []
  | some k => (rd_T109 l (k : Int)).f1.filter (inR fr tl)
end Go.Proofs.Ythkpnnbjcendcaa.Pure
namespace Go.Proofs.Ythkpnnbjcendcaa.Sc
end Go.Proofs.Ythkpnnbjcendcaa.Sc
namespace Go.Proofs.Ythkpnnbjcendcaa.X
end Go.Proofs.Ythkpnnbjcendcaa.X

