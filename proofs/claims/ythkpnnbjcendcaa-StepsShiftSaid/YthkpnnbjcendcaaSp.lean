/- Resources: blocks of one's own, apart from one another, and what is told of them; all in one fact that a walk carries. -/
import Derived.Test.YthkpnnbjcendcaaWMore
set_option linter.unusedVariables false
namespace Go.Proofs.Ythkpnnbjcendcaa.Sp
open Go.RowKit Go.Proofs.YthkpnnbjcendcaaW.PrintWords Go.Proofs.YthkpnnbjcendcaaW.PrintLast Go.Proofs.YthkpnnbjcendcaaW.PrintMore

/-- A resource: its blocks, and what holds of a world. -/
structure Res where
  foot : Nat → Prop
  holds : World → Prop
/-- Its blocks are new since base and are there; what it tells holds wherever these blocks stand so. -/
structure Own (base : Nat) (w : World) (r : Res) : Prop where
  lo : ∀ k, r.foot k → base ≤ k
  hi : ∀ k, r.foot k → k < w.heap.size
  tell : ∀ w', (∀ k, r.foot k → w'.heap[k]? = w.heap[k]?) → r.holds w'
/-- All of these, apart. -/
def Sep (base : Nat) (w : World) : List Res → Prop
  | [] => True
  | r :: rs => Own base w r ∧ (∀ q ∈ rs, ∀ k, r.foot k → ¬ q.foot k) ∧ Sep base w rs
/-- All but the blocks of S, of those that were there, stands as it was. -/
def Stay (w w' : World) (S : Nat → Prop) : Prop := ∀ k, k < w.heap.size → ¬ S k → w'.heap[k]? = w.heap[k]?
theorem Stay.of_kept {w w' : World} {S : Nat → Prop} (h : Kept w w' S) : Stay w w' S := h.2
theorem Stay.of_below {w w' : World} (h : Below w.heap.size w w') (S : Nat → Prop) : Stay w w' S := fun k hk _ => h.block k hk
section
variable {base : Nat} {w w' : World} {r r' a b c d : Res} {rs rs' : List Res} {S : Nat → Prop}
theorem Own.now (h : Own base w r) : r.holds w := h.tell w (fun _ _ => rfl)
theorem Own.move (h : Own base w r) (hm : ∀ k, r.foot k → w'.heap[k]? = w.heap[k]?) : Own base w' r :=
  ⟨h.lo, fun k hk => by
    have h1 := hm k hk
    rw [Array.getElem?_eq_getElem (h.hi k hk)] at h1
    exact (Array.getElem?_eq_some_iff.1 h1).1, fun w2 h2 => h.tell w2 (fun k hk => (h2 k hk).trans (hm k hk))⟩
theorem Own.kept (h : Own base w r) (hk : Stay w w' S) (hne : ∀ k, r.foot k → ¬ S k) : Own base w' r :=
  h.move (fun k hf => hk k (h.hi k hf) (hne k hf))
theorem Own.below (h : Own base w r) (hb : Below w.heap.size w w') : Own base w' r := h.move (fun k hf => hb.block k (h.hi k hf))
theorem Own.lower {base' : Nat} (h : Own base w r) (hb : base' ≤ base) : Own base' w r := ⟨fun k hk => Nat.le_trans hb (h.lo k hk), h.hi, h.tell⟩
/-- What is told, told otherwise. -/
theorem Own.imp (h : Own base w r) (hf : r'.foot = r.foot) (ht : ∀ w', r.holds w' → r'.holds w') : Own base w r' :=
  ⟨fun k hk => h.lo k (hf ▸ hk), fun k hk => h.hi k (hf ▸ hk), fun w2 h2 => ht w2 (h.tell w2 (fun k hk => h2 k (hf ▸ hk)))⟩
theorem Sep.nil (base : Nat) (w : World) : Sep base w [] := trivial
theorem Sep.own (h : Sep base w (r :: rs)) : Own base w r := h.1
theorem Sep.now (h : Sep base w (r :: rs)) : r.holds w := h.1.now
theorem Sep.drop (h : Sep base w (r :: rs)) : Sep base w rs := h.2.2
theorem Sep.apart (h : Sep base w (r :: rs)) : ∀ q ∈ rs, ∀ k, r.foot k → ¬ q.foot k := h.2.1
theorem Sep.hi (h : Sep base w rs) : ∀ q ∈ rs, ∀ k, q.foot k → k < w.heap.size := by
  induction rs with
  | nil => intro q hq; cases hq
  | cons r rs ih =>
    intro q hq
    rcases List.mem_cons.1 hq with rfl | hq
    · exact h.1.hi
    · exact ih h.2.2 q hq
theorem Sep.lo (h : Sep base w rs) : ∀ q ∈ rs, ∀ k, q.foot k → base ≤ k := by
  induction rs with
  | nil => intro q hq; cases hq
  | cons r rs ih =>
    intro q hq
    rcases List.mem_cons.1 hq with rfl | hq
    · exact h.1.lo
    · exact ih h.2.2 q hq
theorem Sep.kept (h : Sep base w rs) (hk : Stay w w' S) (hne : ∀ q ∈ rs, ∀ k, q.foot k → ¬ S k) : Sep base w' rs := by
  induction rs with
  | nil => trivial
  | cons r rs ih => exact ⟨h.1.kept hk (hne r List.mem_cons_self), h.2.1, ih h.2.2 (fun q hq => hne q (List.mem_cons_of_mem _ hq))⟩
theorem Sep.below (h : Sep base w rs) (hb : Below w.heap.size w w') : Sep base w' rs := h.kept (Stay.of_below hb (fun _ => False)) (fun _ _ _ _ hf => hf)
/-- A call that turns the first of them. -/
theorem Sep.call (h : Sep base w (r :: rs)) (hk : Stay w w' r.foot) (ho : Own base w' r') (hf : ∀ k, r'.foot k → r.foot k ∨ w.heap.size ≤ k) : Sep base w' (r' :: rs) :=
  ⟨ho, fun q hq k hk' hq' => (hf k hk').elim (fun h1 => h.2.1 q hq k h1 hq') (fun h2 => by have := h.2.2.hi q hq k hq'; omega), h.2.2.kept hk (fun q hq k hq' hr => h.2.1 q hq k hr hq')⟩
/-- A new one. -/
theorem Sep.new (h : Sep base w rs) (hb : Below w.heap.size w w') (ho : Own base w' r) (hf : ∀ k, r.foot k → w.heap.size ≤ k) : Sep base w' (r :: rs) :=
  ⟨ho, fun q hq k hk hq' => by have := h.hi q hq k hq'; have := hf k hk; omega, h.below hb⟩
theorem sep_alloc (h : Sep base w rs) (o : Obj) : Sep base (w.alloc o) rs := h.below (below_alloc (Below.refl _ _) o)
theorem sep_drew (h : Sep base w rs) : Sep base w.drew rs := h.below (below_drew (Below.refl _ _))
theorem sep_drewN (h : Sep base w rs) (m : Nat) : Sep base (w.drewN m) rs := h.below (pw_below_drewN (Below.refl _ _) m)
theorem Sep.sub (h : Sep base w rs) (hs : rs'.Sublist rs) : Sep base w rs' := by
  induction hs with
  | slnil => trivial
  | cons a _ ih => exact ih h.2.2
  | cons_cons a hs ih => exact ⟨h.1, fun q hq => h.2.1 q (hs.subset hq), ih h.2.2⟩
theorem Sep.perm (h : Sep base w rs) (hp : rs.Perm rs') : Sep base w rs' := by
  induction hp with
  | nil => trivial
  | cons x hp ih => exact ⟨h.1, fun q hq => h.2.1 q (hp.mem_iff.2 hq), ih h.2.2⟩
  | swap x y l =>
    refine ⟨h.2.2.1 |> fun _ => h.2.2.1, ?_, h.1, ?_, h.2.2.2.2⟩
    · intro q hq k hk hq'
      rcases List.mem_cons.1 hq with rfl | hq
      · exact h.2.1 x List.mem_cons_self k hq' hk
      · exact h.2.2.2.1 q hq k hk hq'
    · exact fun q hq => h.2.1 q (List.mem_cons_of_mem _ hq)
  | trans _ _ ih1 ih2 => exact ih2 (ih1 h)
theorem Sep.p2 (h : Sep base w (a :: b :: rs)) : Sep base w (b :: a :: rs) := h.perm (List.Perm.swap _ _ _)
theorem Sep.p3 (h : Sep base w (a :: b :: c :: rs)) : Sep base w (c :: a :: b :: rs) := (h.perm ((List.Perm.swap _ _ _).cons _)).p2
theorem Sep.q3 (h : Sep base w (c :: a :: b :: rs)) : Sep base w (a :: b :: c :: rs) := h.p2.perm ((List.Perm.swap _ _ _).cons _)
theorem Sep.p4 (h : Sep base w (a :: b :: c :: d :: rs)) : Sep base w (d :: a :: b :: c :: rs) := (h.perm (((List.Perm.swap _ _ _).cons _).cons _)).p3
theorem Sep.q4 (h : Sep base w (d :: a :: b :: c :: rs)) : Sep base w (a :: b :: c :: d :: rs) := h.q3.perm (((List.Perm.swap _ _ _).cons _).cons _)
theorem Sep.drop2 (h : Sep base w (a :: b :: rs)) : Sep base w (a :: rs) := h.p2.drop
theorem Sep.drop3 (h : Sep base w (a :: b :: c :: rs)) : Sep base w (a :: b :: rs) := h.p3.drop
theorem Sep.drop4 (h : Sep base w (a :: b :: c :: d :: rs)) : Sep base w (a :: b :: c :: rs) := h.p4.drop
theorem Sep.imp (h : Sep base w (r :: rs)) (hf : r'.foot = r.foot) (ht : ∀ w', r.holds w' → r'.holds w') : Sep base w (r' :: rs) :=
  ⟨h.1.imp hf ht, fun q hq k hk => h.2.1 q hq k (hf ▸ hk), h.2.2⟩
end

/-! ### A variable in memory -/
/-- The block g is a variable's, of these cells. -/
def box (g : Nat) (cs : Array Value) (t : Nat) : Res := ⟨fun k => k = g, fun w => w.heap[g]? = some (.cells cs t (0, 0))⟩
section
variable {base g t : Nat} {cs cs' : Array Value} {w w' : World} {rs : List Res}
theorem Own.box (hb : base ≤ g) (h : w.heap[g]? = some (.cells cs t (0, 0))) : Own base w (box g cs t) :=
  ⟨fun k hk => by rw [hk]; exact hb, fun k hk => by rw [hk]; exact blk_lt h, fun w' hw => (hw g rfl).trans h⟩
theorem Sep.blk (h : Sep base w (box g cs t :: rs)) : w.heap[g]? = some (.cells cs t (0, 0)) := h.now
theorem Sep.ge (h : Sep base w (box g cs t :: rs)) : base ≤ g := h.1.lo g rfl
theorem Sep.cell (h : Sep base w (box g cs t :: rs)) (i : Nat) : w.cell? ⟨g, i, none⟩ = cs[i]? := blk_cell h.blk i
theorem Sep.free (h : Sep base w (box g cs t :: rs)) (i : Nat) : w.frozen? ⟨g, i, none⟩ = false := blk_frozen h.blk i
theorem Sep.newbox (h : Sep base w rs) (hb : Below w.heap.size w w') (hg : w.heap.size ≤ g) (hB : base ≤ w.heap.size) (hx : w'.heap[g]? = some (.cells cs t (0, 0))) : Sep base w' (Sp.box g cs t :: rs) :=
  h.new hb (Own.box (Nat.le_trans hB hg) hx) (fun k hk => by rw [hk]; exact hg)
theorem Sep.set (h : Sep base w (box g cs t :: rs)) (i : Nat) (u : Value) (e : cs.setIfInBounds i u = cs') : Sep base (w.setCell ⟨g, i, none⟩ u) (Sp.box g cs' t :: rs) := by
  have hk : Kept w (w.setCell ⟨g, i, none⟩ u) (fun k => k = g) := Kept.setCell (p := ⟨g, i, none⟩) (Kept.refl w (fun k => k = g)) (.inl rfl) u
  exact h.call (Stay.of_kept hk) (Own.box h.ge (blk_put h.blk i u e)) (fun k hk => .inl hk)
end

theorem Sep.c10 {base g t : Nat} {w : World} {rs : List Res} {x0 : Value} (h : Sep base w (box g #[x0] t :: rs)) : w.cell? ⟨g, 0, none⟩ = some x0 := (Sep.cell h 0).trans rfl
theorem Sep.c20 {base g t : Nat} {w : World} {rs : List Res} {x0 x1 : Value} (h : Sep base w (box g #[x0, x1] t :: rs)) : w.cell? ⟨g, 0, none⟩ = some x0 := (Sep.cell h 0).trans rfl
theorem Sep.c21 {base g t : Nat} {w : World} {rs : List Res} {x0 x1 : Value} (h : Sep base w (box g #[x0, x1] t :: rs)) : w.cell? ⟨g, 1, none⟩ = some x1 := (Sep.cell h 1).trans rfl
theorem Sep.c30 {base g t : Nat} {w : World} {rs : List Res} {x0 x1 x2 : Value} (h : Sep base w (box g #[x0, x1, x2] t :: rs)) : w.cell? ⟨g, 0, none⟩ = some x0 := (Sep.cell h 0).trans rfl
theorem Sep.c31 {base g t : Nat} {w : World} {rs : List Res} {x0 x1 x2 : Value} (h : Sep base w (box g #[x0, x1, x2] t :: rs)) : w.cell? ⟨g, 1, none⟩ = some x1 := (Sep.cell h 1).trans rfl
theorem Sep.c32 {base g t : Nat} {w : World} {rs : List Res} {x0 x1 x2 : Value} (h : Sep base w (box g #[x0, x1, x2] t :: rs)) : w.cell? ⟨g, 2, none⟩ = some x2 := (Sep.cell h 2).trans rfl
theorem Sep.c40 {base g t : Nat} {w : World} {rs : List Res} {x0 x1 x2 x3 : Value} (h : Sep base w (box g #[x0, x1, x2, x3] t :: rs)) : w.cell? ⟨g, 0, none⟩ = some x0 := (Sep.cell h 0).trans rfl
theorem Sep.c41 {base g t : Nat} {w : World} {rs : List Res} {x0 x1 x2 x3 : Value} (h : Sep base w (box g #[x0, x1, x2, x3] t :: rs)) : w.cell? ⟨g, 1, none⟩ = some x1 := (Sep.cell h 1).trans rfl
theorem Sep.c42 {base g t : Nat} {w : World} {rs : List Res} {x0 x1 x2 x3 : Value} (h : Sep base w (box g #[x0, x1, x2, x3] t :: rs)) : w.cell? ⟨g, 2, none⟩ = some x2 := (Sep.cell h 2).trans rfl
theorem Sep.c43 {base g t : Nat} {w : World} {rs : List Res} {x0 x1 x2 x3 : Value} (h : Sep base w (box g #[x0, x1, x2, x3] t :: rs)) : w.cell? ⟨g, 3, none⟩ = some x3 := (Sep.cell h 3).trans rfl
theorem Sep.s10 {base g t : Nat} {w : World} {rs : List Res} {x0 : Value} (h : Sep base w (box g #[x0] t :: rs)) (u : Value) : Sep base (w.setCell ⟨g, 0, none⟩ u) (box g #[u] t :: rs) := h.set 0 u rfl
theorem Sep.s20 {base g t : Nat} {w : World} {rs : List Res} {x0 x1 : Value} (h : Sep base w (box g #[x0, x1] t :: rs)) (u : Value) : Sep base (w.setCell ⟨g, 0, none⟩ u) (box g #[u, x1] t :: rs) := h.set 0 u rfl
theorem Sep.s21 {base g t : Nat} {w : World} {rs : List Res} {x0 x1 : Value} (h : Sep base w (box g #[x0, x1] t :: rs)) (u : Value) : Sep base (w.setCell ⟨g, 1, none⟩ u) (box g #[x0, u] t :: rs) := h.set 1 u rfl
theorem Sep.s30 {base g t : Nat} {w : World} {rs : List Res} {x0 x1 x2 : Value} (h : Sep base w (box g #[x0, x1, x2] t :: rs)) (u : Value) : Sep base (w.setCell ⟨g, 0, none⟩ u) (box g #[u, x1, x2] t :: rs) := h.set 0 u rfl
theorem Sep.s31 {base g t : Nat} {w : World} {rs : List Res} {x0 x1 x2 : Value} (h : Sep base w (box g #[x0, x1, x2] t :: rs)) (u : Value) : Sep base (w.setCell ⟨g, 1, none⟩ u) (box g #[x0, u, x2] t :: rs) := h.set 1 u rfl
theorem Sep.s32 {base g t : Nat} {w : World} {rs : List Res} {x0 x1 x2 : Value} (h : Sep base w (box g #[x0, x1, x2] t :: rs)) (u : Value) : Sep base (w.setCell ⟨g, 2, none⟩ u) (box g #[x0, x1, u] t :: rs) := h.set 2 u rfl
theorem Sep.s40 {base g t : Nat} {w : World} {rs : List Res} {x0 x1 x2 x3 : Value} (h : Sep base w (box g #[x0, x1, x2, x3] t :: rs)) (u : Value) : Sep base (w.setCell ⟨g, 0, none⟩ u) (box g #[u, x1, x2, x3] t :: rs) := h.set 0 u rfl
theorem Sep.s41 {base g t : Nat} {w : World} {rs : List Res} {x0 x1 x2 x3 : Value} (h : Sep base w (box g #[x0, x1, x2, x3] t :: rs)) (u : Value) : Sep base (w.setCell ⟨g, 1, none⟩ u) (box g #[x0, u, x2, x3] t :: rs) := h.set 1 u rfl
theorem Sep.s42 {base g t : Nat} {w : World} {rs : List Res} {x0 x1 x2 x3 : Value} (h : Sep base w (box g #[x0, x1, x2, x3] t :: rs)) (u : Value) : Sep base (w.setCell ⟨g, 2, none⟩ u) (box g #[x0, x1, u, x3] t :: rs) := h.set 2 u rfl
theorem Sep.s43 {base g t : Nat} {w : World} {rs : List Res} {x0 x1 x2 x3 : Value} (h : Sep base w (box g #[x0, x1, x2, x3] t :: rs)) (u : Value) : Sep base (w.setCell ⟨g, 3, none⟩ u) (box g #[x0, x1, x2, u] t :: rs) := h.set 3 u rfl
/-! ### What a call turns -/
/-- The resource of blocks F has become mk F', new blocks apart; all else stands as it was. -/
def Turned (w0 w w' : World) (F : Nat → Prop) (mk : (Nat → Prop) → Res) : Prop :=
  ∃ F', Own w0.heap.size w' (mk F') ∧ (∀ k, (mk F').foot k → F k ∨ w.heap.size ≤ k) ∧ Below w0.heap.size w0 w' ∧ Stay w w' F
section
variable {w0 w w' : World} {r : Res} {rs : List Res} {F : Nat → Prop} {mk : (Nat → Prop) → Res}
theorem Turned.below (h : Turned w0 w w' F mk) : Below w0.heap.size w0 w' := by obtain ⟨_, _, _, h, _⟩ := h; exact h
theorem Turned.kept (h : Turned w0 w w' F mk) : Stay w w' F := by obtain ⟨_, _, _, _, h⟩ := h; exact h
theorem Turned.sep (h : Turned w0 w w' F mk) (hs : Sep w0.heap.size w (r :: rs)) (hf : r.foot = F) : ∃ F', Sep w0.heap.size w' (mk F' :: rs) := by
  subst hf
  obtain ⟨F', h1, h2, h3, h4⟩ := h
  exact ⟨F', hs.call h4 h1 h2⟩
theorem Turned.mk_ {F' : Nat → Prop} (h1 : Own w0.heap.size w' (mk F')) (h2 : ∀ k, (mk F').foot k → F k ∨ w.heap.size ≤ k) (h3 : Below w0.heap.size w0 w') (h4 : Stay w w' F) : Turned w0 w w' F mk := ⟨F', h1, h2, h3, h4⟩
/-- Of what a contract tells of the world of the call's own begin. -/
theorem Turned.imp {mk' : (Nat → Prop) → Res} (h : Turned w0 w w' F mk) (hf : ∀ F', (mk' F').foot = (mk F').foot) (ht : ∀ F' w', (mk F').holds w' → (mk' F').holds w') : Turned w0 w w' F mk' := by
  obtain ⟨F', h1, h2, h3, h4⟩ := h
  exact ⟨F', h1.imp (hf F') (ht F'), fun k hk => h2 k (hf F' ▸ hk), h3, h4⟩
end

/-- What the caller has besides: the blocks that were there and are not F's. -/
def frameR (base : Nat) (w : World) (F : Nat → Prop) : Res := ⟨fun k => base ≤ k ∧ k < w.heap.size ∧ ¬ F k, fun w' => ∀ k, base ≤ k → k < w.heap.size → ¬ F k → w'.heap[k]? = w.heap[k]?⟩
section
variable {base : Nat} {w0 w w' : World} {r : Res} {rs : List Res} {F : Nat → Prop} {mk : (Nat → Prop) → Res}
/-- At a call's begin: what it was given, and what it was not. -/
theorem Sep.start (h : Own base w r) : Sep base w [r, frameR base w r.foot] :=
  ⟨h, fun q hq k hk hq' => by
    obtain rfl := List.mem_singleton.1 hq
    exact hq'.2.2 hk, ⟨fun _ hk => hk.1, fun _ hk => hk.2.1, fun w' hw k h1 h2 h3 => hw k ⟨h1, h2, h3⟩⟩, (fun q hq => by cases hq), trivial⟩
/-- At its end: what it has turned. -/
theorem Turned.of_sep {F' : Nat → Prop} (h : Sep w0.heap.size w' [mk F', frameR w0.heap.size w F]) (hB : Below w0.heap.size w0 w) (hB' : Below w0.heap.size w0 w') : Turned w0 w w' F mk := by
  refine ⟨F', h.own, fun k hk => ?_, hB', fun k hk hn => ?_⟩
  · by_cases hF : F k
    · exact .inl hF
    · refine .inr (Nat.le_of_not_lt fun hlt => h.apart _ (List.mem_singleton.2 rfl) k hk ⟨h.own.lo k hk, hlt, hF⟩)
  · by_cases hb : w0.heap.size ≤ k
    · exact h.drop.now k hb hk hn
    · exact (hB'.block k (by omega)).trans (hB.block k (by omega)).symm
end

/-! ### A row of one's own -/
/-- The value v is a row of one's own, its blocks among F. -/
def row {α : Type} (F : Nat → Prop) (d : Kd α) (e base : Nat) (v : Value) (xs : List α) : Res := ⟨F, fun w => d.R e w base F v xs⟩
section
variable {α : Type} {d : Kd α} {e base : Nat} {v : Value} {xs : List α} {w w' : World} {F ok : Nat → Prop} {rs : List Res}
theorem Own.row (h : d.R e w base ok v xs) : ∃ F, Own base w (row F d e base v xs) ∧ ∀ k, F k → ok k :=
  ⟨fun k => ok k ∧ base ≤ k ∧ k < w.heap.size, ⟨fun _ hk => hk.2.1, fun _ hk => hk.2.2, fun w' hw => Kd.R_move (Kd.R_mono (Kd.R_bound h) (fun k hk => ⟨hk.1, hk.2.1, hk.2.2.1⟩)) (fun k hk => hw k hk)⟩, fun _ hk => hk.1⟩
/-- A row that was made since w. -/
theorem Sep.newrow (h : Sep base w rs) (hb : Below w.heap.size w w') (hB : base ≤ w.heap.size) (hr : d.R e w' w.heap.size ok v xs) : ∃ F, Sep base w' (Sp.row F d e base v xs :: rs) := by
  obtain ⟨F, h1, _⟩ := Own.row hr
  exact ⟨F, h.new hb ((h1.lower hB).imp (r' := Sp.row F d e base v xs) rfl (fun _ hw => Kd.R_lower hw hB)) h1.lo⟩
theorem Sep.nilrow (h : Sep base w rs) (d : Kd α) (e : Nat) : Sep base w (Sp.row (fun _ => False) d e base (.slice none 0 0) [] :: rs) :=
  ⟨⟨fun _ hk => hk.elim, fun _ hk => hk.elim, fun _ _ => Kd.R_nil _ _ _ _ _⟩, fun _ _ _ hk => hk.elim, h⟩
theorem Sep.R (h : Sep base w (Sp.row F d e base v xs :: rs)) : d.R e w base F v xs := h.now
end
section
variable {α : Type} {d : Kd α} {e base : Nat} {v v1 : Value} {xs xs' : List α} {W w1 : World} {F : Nat → Prop} {rs : List Res}
/-- A row that has grown: by an append, by a store. -/
theorem Sep.grown (h : Sep base W (Sp.row F d e base v xs :: rs)) (hr : d.R e w1 base (fun k => F k ∨ W.heap.size ≤ k) v1 xs') (hg : W.grownBy w1 v.ownBlock) : ∃ F', Sep base w1 (Sp.row F' d e base v1 xs' :: rs) := by
  obtain ⟨F', h1, h2⟩ := Own.row hr
  exact ⟨F', h.call (Stay.of_kept (Kept.of_grown hg (Kept.refl W F) (fun k e => .inl (h.R.1 k e)))) h1 h2⟩
theorem C_take' {w : World} {A : Option Addr} {xs : List α} (h : d.C w A xs.length xs) (m : Nat) : d.C w A (xs.take m).length (xs.take m) := by
  by_cases hm : m ≤ xs.length
  · exact Kd.C_take h hm
  · rw [List.take_of_length_le (by omega)]; exact h
end
section
variable {P : Program} {ops : Array Oper} {rest : List Oper} {o : Oper} {a : Act} {Q : Exit → Act → World → Prop} {Kc : Act → World → Prop} {α : Type}
/-- append(v, x), the row being the first of what is apart. -/
theorem wp_append (d : Kd α) {w0 W : World} (hgd : o.guard = none) (s x : Operand) (t e : TypeId) (z : Value) (bytes : Nat)
    (ho : o.op = .call { callee := .builtin .append, args := #[s, x], argTypes := #[t, t] })
    (ht : P.underlying t = some (.slice e)) (hinfo : (P.info? e).map (fun i => (i.zero, i.size, i.bytes)) = some (some z, d.sz, bytes)) (hz : z.cells.size = d.sz) (hs0 : 0 < d.sz) (hb0 : 0 < bytes)
    {v : Value} {xs : List α} (p : α) (cs : List Value) {F : Nat → Prop} {rs : List Res} (HS : Sep w0.heap.size W (row F d e w0.heap.size v xs :: rs)) (hs : a.eval s = v) (hx : a.eval x = .slice (some ⟨W.heap.size, 0, none⟩) 1 1) (hp : d.M W w0.heap.size (fun _ => False) p cs)
    (HB : Below w0.heap.size w0 W) (hl : (xs.length + 1) * bytes ≤ 140737488355328)
    (h : ∀ v1 w1 F', Sep w0.heap.size w1 (row F' d e w0.heap.size v1 (xs ++ [p]) :: rs) → Below w0.heap.size w0 w1 → wpList P ops Q rest (a.put o.dst v1) w1) :
    wpList P ops Q (o :: rest) a (W.alloc (.cells cs.toArray e)) := by
  refine Kd.R_append d (w0 := w0) w0.heap.size hgd s x t e z bytes ho ht hinfo hz hs0 hb0 v xs p cs (fun k => F k ∨ W.heap.size ≤ k) (fun _ => False) hs hx hp (fun _ hk => hk.elim) (fun _ hk => .inr hk) (Kd.R_mono HS.R (fun _ hk => .inl hk)) HB HB.size hl ?_
  intro v1 w1 hr hb hg _
  obtain ⟨F', h1⟩ := HS.grown hr hg
  exact h v1 w1 F' h1 hb
theorem wp_append_step (d : Kd α) {w0 W : World} (hw : Region.wanted o (yielded ops a.tmps) = true) (s x : Operand) (t e : TypeId) (z : Value) (bytes : Nat)
    (ho : o.op = .call { callee := .builtin .append, args := #[s, x], argTypes := #[t, t] })
    (ht : P.underlying t = some (.slice e)) (hinfo : (P.info? e).map (fun i => (i.zero, i.size, i.bytes)) = some (some z, d.sz, bytes)) (hz : z.cells.size = d.sz) (hs0 : 0 < d.sz) (hb0 : 0 < bytes)
    {v : Value} {xs : List α} (p : α) (cs : List Value) {F : Nat → Prop} {rs : List Res} (HS : Sep w0.heap.size W (row F d e w0.heap.size v xs :: rs)) (hs : a.eval s = v) (hx : a.eval x = .slice (some ⟨W.heap.size, 0, none⟩) 1 1) (hp : d.M W w0.heap.size (fun _ => False) p cs)
    (HB : Below w0.heap.size w0 W) (hl : (xs.length + 1) * bytes ≤ 140737488355328)
    (h : ∀ v1 w1 F', Sep w0.heap.size w1 (row F' d e w0.heap.size v1 (xs ++ [p]) :: rs) → Below w0.heap.size w0 w1 → Kc (a.put o.dst v1) w1) :
    if Region.wanted o (yielded ops a.tmps) = true then Oper.wp P o a (W.alloc (.cells cs.toArray e)) Kc Q else Kc (a.put o.dst undef) (W.alloc (.cells cs.toArray e)) := by
  refine Kd.R_append_step d (w0 := w0) w0.heap.size hw s x t e z bytes ho ht hinfo hz hs0 hb0 v xs p cs (fun k => F k ∨ W.heap.size ≤ k) (fun _ => False) hs hx hp (fun _ hk => hk.elim) (fun _ hk => .inr hk) (Kd.R_mono HS.R (fun _ hk => .inl hk)) HB HB.size hl ?_
  intro v1 w1 hr hb hg _
  obtain ⟨F', h1⟩ := HS.grown hr hg
  exact h v1 w1 F' h1 hb
end
section
variable {P : Program} {ops : Array Oper} {rest : List Oper} {o : Oper} {a : Act} {Q : Exit → Act → World → Prop} {α : Type}
theorem below_of_grown {W w1 : World} (hg : W.grownBy w1 none) : Below W.heap.size W w1 := ⟨hg.os, hg.tape, hg.output, hg.size, fun i hi => hg.block i hi (by simp)⟩
/-- make([]T, n). -/
theorem wp_make (d : Kd α) {w0 W : World} (hgd : o.guard = none) {N : Tmp} (hd : o.dst = some N) (t e : TypeId) (x y : Operand) (ho : o.op = .makeSlice t x y) (n : Nat)
    (ht : P.underlying t = some (.slice e)) (z : Value) (bytes : Nat) (hinfo : (P.info? e).map (fun i => (i.zero, i.size, i.bytes)) = some (some z, d.sz, bytes)) (hz : z.cells.size = d.sz) (hs0 : 0 < d.sz) (hb0 : 0 < bytes)
    (z0 : α) (hzero : d.M W w0.heap.size (fun _ => False) z0 z.cells.toList) (hl : n * bytes ≤ 281474976710656) {rs : List Res} (HS : Sep w0.heap.size W rs) (HB : Below w0.heap.size w0 W) (hx : a.eval x = .int .i64 (n : Int)) (hy : a.eval y = .int .i64 (n : Int))
    (h : ∀ A c w1 F, Sep w0.heap.size w1 (row F d e w0.heap.size (.slice A n c) (List.replicate n z0) :: rs) → Below w0.heap.size w0 w1 → wpList P ops Q rest (a.put o.dst (.slice A n c)) w1) : wpList P ops Q (o :: rest) a W := by
  refine Kd.R_make d (w0 := w0) w0.heap.size e hgd hd t x y ho (n : Int) hx hy ht z bytes hinfo hz hs0 hb0 z0 (ok := fun k => W.heap.size ≤ k) (okp := fun _ => False) hzero (fun _ hk => hk.elim) (Nat.le_refl _) (by omega) (by simpa using hl) HB HB.size ?_
  intro v1 w1 hr hb hg _
  rw [Int.toNat_natCast] at hr
  obtain ⟨A, c, rfl⟩ := Kd.R_slice hr
  rw [List.length_replicate] at hr ⊢
  obtain ⟨F, h1, h2⟩ := Own.row hr
  exact h A c w1 F (HS.new (below_of_grown hg) h1 h2) hb
end
section
variable {base e g n cap : Nat} {k : IntKind} {xs : List Int} {W : World} {F : Nat → Prop} {rs : List Res}
theorem Sep.celli (h : Sep base W (Sp.row F (Kd.int k) e base (.slice (some ⟨g, 0, none⟩) n cap) xs :: rs)) (i : Nat) (hi : i < n) : W.cell? ⟨g, i, none⟩ = some (.int k (xs.getD i 0)) ∧ W.frozen? ⟨g, i, none⟩ = false := by
  have := Kd.R_celln (0 : Int) h.R (i : Int) (by omega) (by omega)
  rw [Int.toNat_natCast] at this
  refine ⟨this.1.trans ?_, this.2⟩
  unfold rdOf
  rw [Int.toNat_natCast]
theorem Sep.puti (h : Sep base W (Sp.row F (Kd.int k) e base (.slice (some ⟨g, 0, none⟩) n cap) xs :: rs)) (i : Nat) (x : Int) : ∃ F', Sep base (W.setCell ⟨g, i, none⟩ (.int k x)) (Sp.row F' (Kd.int k) e base (.slice (some ⟨g, 0, none⟩) n cap) (xs.set i x) :: rs) := by
  have := Kd.R_putg h.R (i : Int) x
  rw [Int.toNat_natCast] at this
  exact h.grown (Kd.R_mono this.1 (fun _ hk => .inl hk)) (by simpa [Value.ownBlock] using this.2)
end
section
variable {P : Program} {ops : Array Oper} {rest : List Oper} {o : Oper} {a : Act} {Q : Exit → Act → World → Prop} {Kc : Act → World → Prop} {α : Type}
/-- make([]T, 0, c). -/
theorem wp_makecap (d : Kd α) {w0 W : World} (hgd : o.guard = none) {N : Tmp} (hd : o.dst = some N) (t e : TypeId) (x y : Operand) (ho : o.op = .makeSlice t x y) (n : Nat)
    (ht : P.underlying t = some (.slice e)) (z : Value) (bytes : Nat) (hinfo : (P.info? e).map (fun i => (i.zero, i.size, i.bytes)) = some (some z, d.sz, bytes)) (hz : z.cells.size = d.sz) (hs0 : 0 < d.sz) (hb0 : 0 < bytes)
    (hl : n * bytes ≤ 281474976710656) {rs : List Res} (HS : Sep w0.heap.size W rs) (HB : Below w0.heap.size w0 W) (hx : a.eval x = .int .i64 0) (hy : a.eval y = .int .i64 (n : Int))
    (h : ∀ A c w1 F, Sep w0.heap.size w1 (row F d e w0.heap.size (.slice A 0 c) [] :: rs) → Below w0.heap.size w0 w1 → wpList P ops Q rest (a.put o.dst (.slice A 0 c)) w1) : wpList P ops Q (o :: rest) a W := by
  obtain ⟨i0, hi, hzz⟩ := Option.map_eq_some_iff.1 hinfo
  simp only [Prod.mk.injEq] at hzz
  obtain ⟨hz0, hz1, hz2⟩ := hzz
  have hm : n ≤ 281474976710656 := Nat.le_trans (Nat.le_mul_of_pos_right _ hb0) hl
  have hr := run_make (P := P) (w := W) t e i0 z ht hi hz0 .i64 .i64 0 (n : Int) (by omega) (by omega)
    (by
      have h3 : ((i0.bytes * n : Nat) : Int) ≤ 281474976710656 := by rw [hz2, Nat.mul_comm]; omega
      rwa [Int.natCast_mul] at h3) (by omega)
  simp only [Int.toNat_natCast] at hr
  have hR : d.R e (W.alloc (.cells (madeCells z.cells (n * i0.size)) e)) w0.heap.size (fun k => W.heap.size ≤ k) (.slice (some ⟨W.heap.size, 0, none⟩) 0 n) [] := by
    refine ⟨fun k hk => ?_, [], ⟨by simp, .inr ⟨W.heap.size, n, madeCells z.cells (n * i0.size), rfl, HB.size, blk_new W _, Nat.zero_le _, by simp only [maxLen]; omega, by rw [size_madeCells, hz1], by simp⟩⟩, ⟨by simp, fun j p hj => by simp at hj⟩⟩
    have : W.heap.size = k := by simpa [Value.ownBlock] using hk
    omega
  obtain ⟨F, h1, h2⟩ := Own.row hR
  refine Kd.event_run hgd (v := .slice (some ⟨W.heap.size, 0, none⟩) 0 n) (w1 := W.alloc (.cells (madeCells z.cells (n * i0.size)) e)) (by simp [execOp, ho, hx, hy, hr]) ?_
  exact h _ _ _ F (HS.new (below_alloc (Below.refl _ _) _) h1 h2) (HB.alloc HB.size _)
/-- append(v, ys...), the row being the first of what is apart; ys is read. -/
theorem wp_append_row (d : Kd α) {w0 W : World} (hgd : o.guard = none) (s x : Operand) (t e : TypeId) (z : Value) (bytes : Nat)
    (ho : o.op = .call { callee := .builtin .append, args := #[s, x], argTypes := #[t, t] })
    (ht : P.underlying t = some (.slice e)) (hinfo : (P.info? e).map (fun i => (i.zero, i.size, i.bytes)) = some (some z, d.sz, bytes)) (hz : z.cells.size = d.sz) (hs0 : 0 < d.sz) (hb0 : 0 < bytes)
    {v : Value} {xs : List α} (ys : List α) (A : Option Addr) (m c : Nat) {F : Nat → Prop} {rs : List Res} (HS : Sep w0.heap.size W (row F d e w0.heap.size v xs :: rs)) (HR : d.C W A m ys) (hKM : ∀ x cs, d.K W x cs → d.M W w0.heap.size (fun _ => False) x cs)
    (HB : Below w0.heap.size w0 W) (hl : (xs.length + m) * bytes ≤ 140737488355328) (hs : a.eval s = v) (hx : a.eval x = .slice A m c)
    (h : ∀ v1 w1 F', Sep w0.heap.size w1 (row F' d e w0.heap.size v1 (xs ++ ys) :: rs) → Below w0.heap.size w0 w1 → wpList P ops Q rest (a.put o.dst v1) w1) : wpList P ops Q (o :: rest) a W := by
  refine Kd.R_append_rows d (w0 := w0) w0.heap.size hgd s x t e z bytes ho ht hinfo hz hs0 hb0 v xs ys A m c (fun k => F k ∨ W.heap.size ≤ k) (fun _ => False) hs hx (Kd.R_mono HS.R (fun _ hk => .inl hk)) HR hKM (fun _ hk => hk.elim) (fun _ hk => .inr hk) HB HB.size hl ?_
  intro v1 w1 hr hb hg _
  obtain ⟨F', h1⟩ := HS.grown hr hg
  exact h v1 w1 F' h1 hb
end
section
variable {P : Program} {ops : Array Oper} {rest : List Oper} {o : Oper} {a : Act} {Q : Exit → Act → World → Prop} {α : Type}
/-- A literal '[]T{..}'. -/
theorem wp_lit (d : Kd α) {w0 W : World} (hgd : o.guard = none) {N : Tmp} (hd : o.dst = some N) (e : TypeId) (xs : List α) (inner : List Value)
    (hrun : (execOp a.eval o).run P W = .ok (.value (.slice (some ⟨W.heap.size, 0, none⟩) xs.length xs.length)) (W.alloc (.cells inner.toArray e)))
    (hrep : Reps (d.M W w0.heap.size (fun _ => False)) d.sz xs inner) {rs : List Res} (HS : Sep w0.heap.size W rs) (HB : Below w0.heap.size w0 W) (hm : xs.length ≤ 9223372036854775807)
    (h : ∀ v1 w1 F, Sep w0.heap.size w1 (row F d e w0.heap.size v1 xs :: rs) → Below w0.heap.size w0 w1 → wpList P ops Q rest (a.put o.dst v1) w1) : wpList P ops Q (o :: rest) a W := by
  refine Kd.R_lit d (w0 := w0) w0.heap.size e hgd hd (xs := xs) (inner := inner) (ok := fun k => W.heap.size ≤ k) (okp := fun _ => False) hrun hrep (fun _ hk => hk.elim) (Nat.le_refl _) HB HB.size hm ?_
  intro v1 w1 hr hb hg _
  obtain ⟨F, h1, h2⟩ := Own.row hr
  exact h v1 w1 F (HS.new (below_of_grown hg) h1 h2) hb
end
section
variable {α β : Type} {d : Kd α} {d' : Kd β} {e e' base : Nat} {v v' : Value} {xs : List α} {ys : List β} {w w' : World} {rs : List Res} {ok ok' : Nat → Prop}
/-- Two rows that a call has made. -/
theorem Sep.newrow2 (h : Sep base w rs) (hb : Below w.heap.size w w') (hB : base ≤ w.heap.size) (hE : d.E = []) (hE' : d'.E = []) (hr : d.R e w' w.heap.size (fun k => some k ≠ v'.ownBlock) v xs) (hr' : d'.R e' w' w.heap.size (fun k => some k ≠ v.ownBlock) v' ys) :
    ∃ F F', Sep base w' (Sp.row F d e base v xs :: Sp.row F' d' e' base v' ys :: rs) := by
  obtain ⟨F', h1, h2⟩ := Own.row (Kd.R_tight hE' hr')
  obtain ⟨F, h3, h4⟩ := Own.row (Kd.R_tight hE hr)
  have hs := h.new hb ((h1.lower hB).imp (r' := Sp.row F' d' e' base v' ys) rfl (fun _ hw => Kd.R_lower hw hB)) h1.lo
  refine ⟨F, F', (h3.lower hB).imp (r' := Sp.row F d e base v xs) rfl (fun _ hw => Kd.R_lower hw hB), ?_, hs⟩
  intro q hq k hk hk'
  rcases List.mem_cons.1 hq with rfl | hq
  · exact hr.1 k (h4 k hk).symm (h2 k hk')
  · have := h.hi q hq k hk'
    have := h3.lo k hk
    omega
end
end Go.Proofs.Ythkpnnbjcendcaa.Sp
