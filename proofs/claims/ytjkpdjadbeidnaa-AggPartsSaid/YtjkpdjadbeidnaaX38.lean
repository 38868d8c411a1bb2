import Derived.Test.YtjkpdjadbeidnaaX0
import Derived.Test.YtjkpdjadbeidnaaX1
import Derived.Test.YtjkpdjadbeidnaaX4
import Derived.Test.YtjkpdjadbeidnaaX5
import Derived.Test.YtjkpdjadbeidnaaX6
import Derived.Test.YtjkpdjadbeidnaaX7
import Derived.Test.YtjkpdjadbeidnaaX13
import Derived.Test.YtjkpdjadbeidnaaX14
import Derived.Test.YtjkpdjadbeidnaaX15
import Derived.Test.YtjkpdjadbeidnaaX16
import Derived.Test.YtjkpdjadbeidnaaX18
-- x
namespace Go.Proofs.Ytjkpdjadbeidnaa.X
open Go.RowKit Go.Proofs.YtjkpdjadbeidnaaW.PrintWords Go.Proofs.YtjkpdjadbeidnaaW.PrintLast Go.Proofs.YtjkpdjadbeidnaaW.PrintMore
attribute [local go_sem] max2_int min2_int max_two min_two max_three min_three max_four min_four   -- for this text's walks alone
set_option linter.unusedVariables false
set_option linter.unusedSimpArgs false

attribute [local go_sem high] idxA80
attribute [local go_sem high] eqA50
section
variable {α : Type} {d : Kd α} {e base g g' : Nat} {ok : Nat → Prop} {W w : World} {v : Value} {xs : List α} {t : TypeId} {cs : Array Value} {z0 z1 z2 z3 z4 z5 : Value}
theorem V_set6 (h : d.V e W base ok v xs) (hok : ∀ k, ok k → k ≠ g) (a b c d' e' f : Value) : d.V e ((((((W.setCell ⟨g, 0, none⟩ a).setCell ⟨g, 1, none⟩ b).setCell ⟨g, 2, none⟩ c).setCell ⟨g, 3, none⟩ d').setCell ⟨g, 4, none⟩ e').setCell ⟨g, 5, none⟩ f) base ok v xs :=
  Kd.V_far (p := ⟨g, 5, none⟩) (Kd.V_far (p := ⟨g, 4, none⟩) (Kd.V_far (p := ⟨g, 3, none⟩) (Kd.V_far (p := ⟨g, 2, none⟩) (Kd.V_far (p := ⟨g, 1, none⟩) (Kd.V_far (p := ⟨g, 0, none⟩) h hok a) hok b) hok c) hok d') hok e') hok f
theorem blk_put6 (h : W.heap[g]? = some (.cells #[z0, z1, z2, z3, z4, z5] t (0, 0))) (a b c d' e' f : Value) : ((((((W.setCell ⟨g, 0, none⟩ a).setCell ⟨g, 1, none⟩ b).setCell ⟨g, 2, none⟩ c).setCell ⟨g, 3, none⟩ d').setCell ⟨g, 4, none⟩ e').setCell ⟨g, 5, none⟩ f).heap[g]? = some (.cells #[a, b, c, d', e', f] t (0, 0)) :=
  blk_put (blk_put (blk_put (blk_put (blk_put (blk_put h 0 a rfl) 1 b rfl) 2 c rfl) 3 d' rfl) 4 e' rfl) 5 f rfl
theorem blk_far6 (h : W.heap[g']? = some (.cells cs t (0, 0))) (hne : g' ≠ g) (a b c d' e' f : Value) : ((((((W.setCell ⟨g, 0, none⟩ a).setCell ⟨g, 1, none⟩ b).setCell ⟨g, 2, none⟩ c).setCell ⟨g, 3, none⟩ d').setCell ⟨g, 4, none⟩ e').setCell ⟨g, 5, none⟩ f).heap[g']? = some (.cells cs t (0, 0)) :=
  blk_far (blk_far (blk_far (blk_far (blk_far (blk_far h (p := ⟨g, 0, none⟩) hne a) (p := ⟨g, 1, none⟩) hne b) (p := ⟨g, 2, none⟩) hne c) (p := ⟨g, 3, none⟩) hne d') (p := ⟨g, 4, none⟩) hne e') (p := ⟨g, 5, none⟩) hne f
theorem below_set6 (h : Below w.heap.size w W) (hg : w.heap.size ≤ g) (a b c d' e' f : Value) : Below w.heap.size w ((((((W.setCell ⟨g, 0, none⟩ a).setCell ⟨g, 1, none⟩ b).setCell ⟨g, 2, none⟩ c).setCell ⟨g, 3, none⟩ d').setCell ⟨g, 4, none⟩ e').setCell ⟨g, 5, none⟩ f) :=
  below_set (below_set (below_set (below_set (below_set (below_set h hg) hg) hg) hg) hg) hg
end
/-- Booleans, by the lengths of their runs, trues first. -/
def rl_ : Bool → List Nat → List Bool
  | _, [] => []
  | b, n :: l => List.replicate n b ++ rl_ (!b) l
abbrev ra_ (l : List Nat) : Array Bool := ⟨rl_ true l⟩
theorem sA_ {α : Type} {l : List α} {i : Nat} {a : α} : l.toArray.setIfInBounds i a = (l.set i a).toArray := List.setIfInBounds_toArray ..
theorem sB_ {α : Type} {x : α} {l : List α} {a : α} : (x :: l).set 0 a = a :: l := rfl
theorem sC_ {α : Type} {x : α} {l : List α} {n : Nat} {a : α} : (x :: l).set (n + 1) a = x :: l.set n a := rfl
abbrev Z6_ : Obj := .cells #[.int .i64 0, .int .i64 0, .int .i64 0, .int .i64 0, .int .i64 0, .int .i64 0] 50 (0, 0)
/-! ### marigraphlaw12_AggParts: function 12 -/
def marigraphlaw12_AggParts.f (k : Nat) (l0 : List (S33)) (a1 : Int) (a2 : Int) : Option (Bool) := (marigraphlaw12_shown.f k).bind fun t195 => ((marigraphlaw12_few.f l0).bind fun t196 => (if (wrap64 ((t196.length : Int) + 1)) = 0 then (none) else (if (wrap64 ((wrap64 ((t196.length : Int) - (Int.tmod (wrap64 (a1)) (wrap64 ((t196.length : Int) + 1))))) + 1)) = 0 then (none) else (if 0 ≤ (Int.tmod (wrap64 (a1)) (wrap64 ((t196.length : Int) + 1))) then (if (Int.tmod (wrap64 (a1)) (wrap64 ((t196.length : Int) + 1))) ≤ (t196.length : Int) then ((agg_Of.f k (t196.take ((Int.tmod (wrap64 (a1)) (wrap64 ((t196.length : Int) + 1))) : Int).toNat)).bind fun bt204 => (if (Int.tmod (wrap64 (a1)) (wrap64 ((t196.length : Int) + 1))) ≤ (wrap64 ((Int.tmod (wrap64 (a1)) (wrap64 ((t196.length : Int) + 1))) + (Int.tmod (wrap64 (a2)) (wrap64 ((wrap64 ((t196.length : Int) - (Int.tmod (wrap64 (a1)) (wrap64 ((t196.length : Int) + 1))))) + 1))))) then (if (wrap64 ((Int.tmod (wrap64 (a1)) (wrap64 ((t196.length : Int) + 1))) + (Int.tmod (wrap64 (a2)) (wrap64 ((wrap64 ((t196.length : Int) - (Int.tmod (wrap64 (a1)) (wrap64 ((t196.length : Int) + 1))))) + 1))))) ≤ (t196.length : Int) then ((agg_Of.f k ((t196.take ((wrap64 ((Int.tmod (wrap64 (a1)) (wrap64 ((t196.length : Int) + 1))) + (Int.tmod (wrap64 (a2)) (wrap64 ((wrap64 ((t196.length : Int) - (Int.tmod (wrap64 (a1)) (wrap64 ((t196.length : Int) + 1))))) + 1))))) : Int).toNat).drop ((Int.tmod (wrap64 (a1)) (wrap64 ((t196.length : Int) + 1))) : Int).toNat)).bind fun bt215 => (if 0 ≤ (wrap64 ((Int.tmod (wrap64 (a1)) (wrap64 ((t196.length : Int) + 1))) + (Int.tmod (wrap64 (a2)) (wrap64 ((wrap64 ((t196.length : Int) - (Int.tmod (wrap64 (a1)) (wrap64 ((t196.length : Int) + 1))))) + 1))))) then ((agg_Of.f k (t196.drop ((wrap64 ((Int.tmod (wrap64 (a1)) (wrap64 ((t196.length : Int) + 1))) + (Int.tmod (wrap64 (a2)) (wrap64 ((wrap64 ((t196.length : Int) - (Int.tmod (wrap64 (a1)) (wrap64 ((t196.length : Int) + 1))))) + 1))))) : Int).toNat)).bind fun bt226 => (if t195 = true then ((agg_Join.f bt204.1 bt204.2.1 bt204.2.2.1 bt204.2.2.2.1 bt204.2.2.2.2.1 bt204.2.2.2.2.2 bt215.1 bt215.2.1 bt215.2.2.1 bt215.2.2.2.1 bt215.2.2.2.2.1 bt215.2.2.2.2.2).bind fun bt235 => ((agg_Join.f bt235.1 bt235.2.1 bt235.2.2.1 bt235.2.2.2.1 bt235.2.2.2.2.1 bt235.2.2.2.2.2 bt226.1 bt226.2.1 bt226.2.2.1 bt226.2.2.2.1 bt226.2.2.2.2.1 bt226.2.2.2.2.2).bind fun bt241 => ((agg_Of.f k t196).bind fun bt247 => (if (bt241.1 == bt247.1 && (bt241.2.1 == bt247.2.1 && (bt241.2.2.1 == bt247.2.2.1 && (bt241.2.2.2.1 == bt247.2.2.2.1 && (bt241.2.2.2.2.1 == bt247.2.2.2.2.1 && (bt241.2.2.2.2.2 == bt247.2.2.2.2.2)))))) = true then ((agg_Join.f bt215.1 bt215.2.1 bt215.2.2.1 bt215.2.2.2.1 bt215.2.2.2.2.1 bt215.2.2.2.2.2 bt226.1 bt226.2.1 bt226.2.2.1 bt226.2.2.2.1 bt226.2.2.2.2.1 bt226.2.2.2.2.2).bind fun bt253 => ((agg_Join.f bt204.1 bt204.2.1 bt204.2.2.1 bt204.2.2.2.1 bt204.2.2.2.2.1 bt204.2.2.2.2.2 bt253.1 bt253.2.1 bt253.2.2.1 bt253.2.2.2.1 bt253.2.2.2.2.1 bt253.2.2.2.2.2).bind fun bt259 => ((agg_Of.f k t196).bind fun bt265 => (some (bt259.1 == bt265.1 && (bt259.2.1 == bt265.2.1 && (bt259.2.2.1 == bt265.2.2.1 && (bt259.2.2.2.1 == bt265.2.2.2.1 && (bt259.2.2.2.2.1 == bt265.2.2.2.2.1 && (bt259.2.2.2.2.2 == bt265.2.2.2.2.2)))))))))) else (some false))))) else (some false))) else (none))) else (none)) else (none))) else (none)) else (none)))))
theorem marigraphlaw12_AggParts.mono : ∀ a0 a1 a2 k, LeO (marigraphlaw12_AggParts.f k a0 a1 a2) (marigraphlaw12_AggParts.f (k + 1) a0 a1 a2) := by
  intro a0 a1 a2 k
  unfold marigraphlaw12_AggParts.f
  repeat' first
      | (with_reducible exact agg_Of.mono _ _)
      | (with_reducible exact marigraphlaw12_shown.mono _)
      | (with_reducible exact LeO.refl _)
      | (with_reducible exact LeO.none _)
      | (with_reducible refine LeO.ite ?_ ?_)
      | (with_reducible refine LeO.bind ?_ (fun _ => ?_))
      | exact agg_Of.mono _ _
      | exact marigraphlaw12_shown.mono _
      | exact LeO.none _
      | refine LeO.ite ?_ ?_
      | refine LeO.bind ?_ (fun _ => ?_)
def marigraphlaw12_AggParts.T5 : Bool × List (List Nat × List Nat) := (true, [([], []), ([], []), ([0, 1], [0, 1]), ([2], [2]), ([], []), ([], []), ([], []), ([4, 5, 6], [4, 5, 6]), ([7, 3], [7]), ([], []), ([], []), ([9, 10], [9, 10]), ([11, 8], [11]), ([], []), ([], []), ([], []), ([13, 3, 12, 0, 1, 2, 3, 13, 14, 15], [3, 13]), ([14, 8, 16, 0, 1, 2, 3, 4, 5, 6, 7, 8, 13, 14, 15, 16], [8, 14]), ([15, 12, 17, 0, 1, 2, 3, 4, 5, 6, 7, 8, 9, 10, 11, 12, 13, 14, 15, 16, 17], [12, 15])])
def marigraphlaw12_AggParts.B5 : List Nat := [0, 0, 3, 7, 0, 0, 0, 112, 255, 0, 0, 1536, 4095, 0, 0, 0, 65535, 131071, 262143]
theorem marigraphlaw12_AggParts.tab5 : rtab .any (opsOf Try.f12 5) = marigraphlaw12_AggParts.T5 := by kernel_rfl
theorem marigraphlaw12_AggParts.bits5 : waitsOk marigraphlaw12_AggParts.T5.2 marigraphlaw12_AggParts.B5 = true := by kernel_rfl
def marigraphlaw12_AggParts.T6 : Bool × List (List Nat × List Nat) := (true, [([], []), ([0], [0]), ([1], [1]), ([1], [1]), ([2, 3, 1, 1], [1, 2, 3]), ([1], [1]), ([4, 5, 4, 1], [1, 4, 5]), ([1], [1]), ([7, 6, 1], [1, 7]), ([6, 8, 1], [1, 6, 8]), ([1, 9], [1, 9]), ([10, 8], [10]), ([11], [11]), ([11], [11]), ([11], [11]), ([13, 14, 11, 11], [11, 13, 14]), ([12, 15, 15, 11], [11, 12, 15]), ([11], [11]), ([17, 16, 11], [11, 17]), ([16, 18, 11], [11, 16, 18]), ([11, 19], [11, 19]), ([20, 18, 0, 1, 2, 3, 4, 5, 6, 7, 8, 9, 10, 11, 12, 13, 14, 15, 16, 17, 18, 19, 20], [20])])
def marigraphlaw12_AggParts.B6 : List Nat := [0, 1, 3, 3, 15, 3, 63, 3, 255, 511, 1023, 2047, 4095, 4095, 4095, 28671, 65535, 4095, 262143, 524287, 1048575, 2097151]
theorem marigraphlaw12_AggParts.tab6 : rtab .any (opsOf Try.f12 6) = marigraphlaw12_AggParts.T6 := by kernel_rfl
theorem marigraphlaw12_AggParts.bits6 : waitsOk marigraphlaw12_AggParts.T6.2 marigraphlaw12_AggParts.B6 = true := by kernel_rfl
set_option maxHeartbeats 40000000 in
set_option maxRecDepth 100000 in
theorem marigraphlaw12_AggParts.calls (k : Nat) (A0 : Option Addr) (c0 : Nat) (l0 : List (S33)) (a1 : Int) (a2 : Int) (r : Bool) (w : World) (hr0 : Kd.C k33 w A0 l0.length l0) (hc0 : l0.length ≤ c0) (h : marigraphlaw12_AggParts.f k l0 a1 a2 = some r) :
    Calls Try.prog 12 #[.slice A0 l0.length c0, .int .u16 a1, .int .u16 a2] w fun e w' => e = .returned (.bool r) ∧ Below w.heap.size w w' := by
 have hu50 := Try.underlying50
 have HR0 := Aside0.mk hr0
 have HC0 := Aside0.mk hc0
 clear hr0 hc0
 have HB := Aside0.mk (Below.refl w.heap.size w)
 have H : ((marigraphlaw12_shown.f k).bind fun t195 => ((marigraphlaw12_few.f l0).bind fun t196 => (if (wrap64 ((t196.length : Int) + 1)) = 0 then (none) else (if (wrap64 ((wrap64 ((t196.length : Int) - (Int.tmod (wrap64 (a1)) (wrap64 ((t196.length : Int) + 1))))) + 1)) = 0 then (none) else (if 0 ≤ (Int.tmod (wrap64 (a1)) (wrap64 ((t196.length : Int) + 1))) then (if (Int.tmod (wrap64 (a1)) (wrap64 ((t196.length : Int) + 1))) ≤ (t196.length : Int) then ((agg_Of.f k (t196.take ((Int.tmod (wrap64 (a1)) (wrap64 ((t196.length : Int) + 1))) : Int).toNat)).bind fun bt204 => (if (Int.tmod (wrap64 (a1)) (wrap64 ((t196.length : Int) + 1))) ≤ (wrap64 ((Int.tmod (wrap64 (a1)) (wrap64 ((t196.length : Int) + 1))) + (Int.tmod (wrap64 (a2)) (wrap64 ((wrap64 ((t196.length : Int) - (Int.tmod (wrap64 (a1)) (wrap64 ((t196.length : Int) + 1))))) + 1))))) then (if (wrap64 ((Int.tmod (wrap64 (a1)) (wrap64 ((t196.length : Int) + 1))) + (Int.tmod (wrap64 (a2)) (wrap64 ((wrap64 ((t196.length : Int) - (Int.tmod (wrap64 (a1)) (wrap64 ((t196.length : Int) + 1))))) + 1))))) ≤ (t196.length : Int) then ((agg_Of.f k ((t196.take ((wrap64 ((Int.tmod (wrap64 (a1)) (wrap64 ((t196.length : Int) + 1))) + (Int.tmod (wrap64 (a2)) (wrap64 ((wrap64 ((t196.length : Int) - (Int.tmod (wrap64 (a1)) (wrap64 ((t196.length : Int) + 1))))) + 1))))) : Int).toNat).drop ((Int.tmod (wrap64 (a1)) (wrap64 ((t196.length : Int) + 1))) : Int).toNat)).bind fun bt215 => (if 0 ≤ (wrap64 ((Int.tmod (wrap64 (a1)) (wrap64 ((t196.length : Int) + 1))) + (Int.tmod (wrap64 (a2)) (wrap64 ((wrap64 ((t196.length : Int) - (Int.tmod (wrap64 (a1)) (wrap64 ((t196.length : Int) + 1))))) + 1))))) then ((agg_Of.f k (t196.drop ((wrap64 ((Int.tmod (wrap64 (a1)) (wrap64 ((t196.length : Int) + 1))) + (Int.tmod (wrap64 (a2)) (wrap64 ((wrap64 ((t196.length : Int) - (Int.tmod (wrap64 (a1)) (wrap64 ((t196.length : Int) + 1))))) + 1))))) : Int).toNat)).bind fun bt226 => (if t195 = true then ((agg_Join.f bt204.1 bt204.2.1 bt204.2.2.1 bt204.2.2.2.1 bt204.2.2.2.2.1 bt204.2.2.2.2.2 bt215.1 bt215.2.1 bt215.2.2.1 bt215.2.2.2.1 bt215.2.2.2.2.1 bt215.2.2.2.2.2).bind fun bt235 => ((agg_Join.f bt235.1 bt235.2.1 bt235.2.2.1 bt235.2.2.2.1 bt235.2.2.2.2.1 bt235.2.2.2.2.2 bt226.1 bt226.2.1 bt226.2.2.1 bt226.2.2.2.1 bt226.2.2.2.2.1 bt226.2.2.2.2.2).bind fun bt241 => ((agg_Of.f k t196).bind fun bt247 => (if (bt241.1 == bt247.1 && (bt241.2.1 == bt247.2.1 && (bt241.2.2.1 == bt247.2.2.1 && (bt241.2.2.2.1 == bt247.2.2.2.1 && (bt241.2.2.2.2.1 == bt247.2.2.2.2.1 && (bt241.2.2.2.2.2 == bt247.2.2.2.2.2)))))) = true then ((agg_Join.f bt215.1 bt215.2.1 bt215.2.2.1 bt215.2.2.2.1 bt215.2.2.2.2.1 bt215.2.2.2.2.2 bt226.1 bt226.2.1 bt226.2.2.1 bt226.2.2.2.1 bt226.2.2.2.2.1 bt226.2.2.2.2.2).bind fun bt253 => ((agg_Join.f bt204.1 bt204.2.1 bt204.2.2.1 bt204.2.2.2.1 bt204.2.2.2.2.1 bt204.2.2.2.2.2 bt253.1 bt253.2.1 bt253.2.2.1 bt253.2.2.2.1 bt253.2.2.2.2.1 bt253.2.2.2.2.2).bind fun bt259 => ((agg_Of.f k t196).bind fun bt265 => (some (bt259.1 == bt265.1 && (bt259.2.1 == bt265.2.1 && (bt259.2.2.1 == bt265.2.2.1 && (bt259.2.2.2.1 == bt265.2.2.2.1 && (bt259.2.2.2.2.1 == bt265.2.2.2.2.1 && (bt259.2.2.2.2.2 == bt265.2.2.2.2.2)))))))))) else (some false))))) else (some false))) else (none))) else (none)) else (none))) else (none)) else (none)))))) = some r := h
 clear h
 replace H := Option.bind_eq_some_iff.mp H
 obtain ⟨t195, A40, H⟩ := H
 (try dsimp only at H)
 have A4 := Aside0.mk A40
 clear A40
 replace H := Option.bind_eq_some_iff.mp H
 obtain ⟨t196, A50, H⟩ := H
 (try dsimp only at H)
 have A5 := Aside0.mk A50
 clear A50
 by_cases c6 : (wrap64 ((t196.length : Int) + 1)) = 0
 · rw [if_pos c6] at H
   exact absurd H (by simp)
 rw [if_neg c6] at H
 have c6b0 : ((wrap64 ((t196.length : Int) + 1)) == 0) = false := beq_eq_false_iff_ne.mpr c6
 have c6b1 : ((wrap64 ((t196.length : Int) + 1)) != 0) = true := bne_iff_ne.mpr c6
 by_cases c7 : (wrap64 ((wrap64 ((t196.length : Int) - (Int.tmod (wrap64 (a1)) (wrap64 ((t196.length : Int) + 1))))) + 1)) = 0
 · rw [if_pos c7] at H
   exact absurd H (by simp)
 rw [if_neg c7] at H
 have c7b0 : ((wrap64 ((wrap64 ((t196.length : Int) - (Int.tmod (wrap64 (a1)) (wrap64 ((t196.length : Int) + 1))))) + 1)) == 0) = false := beq_eq_false_iff_ne.mpr c7
 have c7b1 : ((wrap64 ((wrap64 ((t196.length : Int) - (Int.tmod (wrap64 (a1)) (wrap64 ((t196.length : Int) + 1))))) + 1)) != 0) = true := bne_iff_ne.mpr c7
 obtain ⟨ji8, hji8⟩ : ∃ j_ : Int, (Int.tmod (wrap64 (a1)) (wrap64 ((t196.length : Int) + 1))) = j_ := ⟨_, rfl⟩
 replace H : (if 0 ≤ (ji8) then (if (ji8) ≤ (t196.length : Int) then ((agg_Of.f k (t196.take ((ji8) : Int).toNat)).bind fun bt204 => (if (ji8) ≤ (wrap64 ((ji8) + (Int.tmod (wrap64 (a2)) (wrap64 ((wrap64 ((t196.length : Int) - (ji8))) + 1))))) then (if (wrap64 ((ji8) + (Int.tmod (wrap64 (a2)) (wrap64 ((wrap64 ((t196.length : Int) - (ji8))) + 1))))) ≤ (t196.length : Int) then ((agg_Of.f k ((t196.take ((wrap64 ((ji8) + (Int.tmod (wrap64 (a2)) (wrap64 ((wrap64 ((t196.length : Int) - (ji8))) + 1))))) : Int).toNat).drop ((ji8) : Int).toNat)).bind fun bt215 => (if 0 ≤ (wrap64 ((ji8) + (Int.tmod (wrap64 (a2)) (wrap64 ((wrap64 ((t196.length : Int) - (ji8))) + 1))))) then ((agg_Of.f k (t196.drop ((wrap64 ((ji8) + (Int.tmod (wrap64 (a2)) (wrap64 ((wrap64 ((t196.length : Int) - (ji8))) + 1))))) : Int).toNat)).bind fun bt226 => (if t195 = true then ((agg_Join.f bt204.1 bt204.2.1 bt204.2.2.1 bt204.2.2.2.1 bt204.2.2.2.2.1 bt204.2.2.2.2.2 bt215.1 bt215.2.1 bt215.2.2.1 bt215.2.2.2.1 bt215.2.2.2.2.1 bt215.2.2.2.2.2).bind fun bt235 => ((agg_Join.f bt235.1 bt235.2.1 bt235.2.2.1 bt235.2.2.2.1 bt235.2.2.2.2.1 bt235.2.2.2.2.2 bt226.1 bt226.2.1 bt226.2.2.1 bt226.2.2.2.1 bt226.2.2.2.2.1 bt226.2.2.2.2.2).bind fun bt241 => ((agg_Of.f k t196).bind fun bt247 => (if (bt241.1 == bt247.1 && (bt241.2.1 == bt247.2.1 && (bt241.2.2.1 == bt247.2.2.1 && (bt241.2.2.2.1 == bt247.2.2.2.1 && (bt241.2.2.2.2.1 == bt247.2.2.2.2.1 && (bt241.2.2.2.2.2 == bt247.2.2.2.2.2)))))) = true then ((agg_Join.f bt215.1 bt215.2.1 bt215.2.2.1 bt215.2.2.2.1 bt215.2.2.2.2.1 bt215.2.2.2.2.2 bt226.1 bt226.2.1 bt226.2.2.1 bt226.2.2.2.1 bt226.2.2.2.2.1 bt226.2.2.2.2.2).bind fun bt253 => ((agg_Join.f bt204.1 bt204.2.1 bt204.2.2.1 bt204.2.2.2.1 bt204.2.2.2.2.1 bt204.2.2.2.2.2 bt253.1 bt253.2.1 bt253.2.2.1 bt253.2.2.2.1 bt253.2.2.2.2.1 bt253.2.2.2.2.2).bind fun bt259 => ((agg_Of.f k t196).bind fun bt265 => (some (bt259.1 == bt265.1 && (bt259.2.1 == bt265.2.1 && (bt259.2.2.1 == bt265.2.2.1 && (bt259.2.2.2.1 == bt265.2.2.2.1 && (bt259.2.2.2.2.1 == bt265.2.2.2.2.1 && (bt259.2.2.2.2.2 == bt265.2.2.2.2.2)))))))))) else (some false))))) else (some false))) else (none))) else (none)) else (none))) else (none)) else (none)) = some r := by first | (rw [hji8] at H; exact H) | (simp only [hji8] at H ⊢; exact H)
 (try rw [hji8] at c7b0)
 (try rw [hji8] at c7b1)
 (try rw [hji8] at A4)
 (try rw [hji8] at A5)
 by_cases c9 : 0 ≤ (ji8)
 rotate_left
 · rw [if_neg c9] at H
   exact absurd H (by simp)
 rw [if_pos c9] at H
 have c9b0 := eq_true c9
 have c9b1 : decide (0 ≤ (ji8)) = true := decide_eq_true c9
 clear c9
 by_cases c10 : (ji8) ≤ (t196.length : Int)
 rotate_left
 · rw [if_neg c10] at H
   exact absurd H (by simp)
 rw [if_pos c10] at H
 have c10b0 := eq_true c10
 have c10b1 : decide ((ji8) ≤ (t196.length : Int)) = true := decide_eq_true c10
 clear c10
 obtain ⟨y199, hy199⟩ : ∃ y_ : List (S33), y_ = (t196.take ((ji8) : Int).toNat) := ⟨_, rfl⟩
 replace H : ((agg_Of.f k y199).bind fun bt204 => (if (ji8) ≤ (wrap64 ((ji8) + (Int.tmod (wrap64 (a2)) (wrap64 ((wrap64 ((t196.length : Int) - (ji8))) + 1))))) then (if (wrap64 ((ji8) + (Int.tmod (wrap64 (a2)) (wrap64 ((wrap64 ((t196.length : Int) - (ji8))) + 1))))) ≤ (t196.length : Int) then ((agg_Of.f k ((t196.take ((wrap64 ((ji8) + (Int.tmod (wrap64 (a2)) (wrap64 ((wrap64 ((t196.length : Int) - (ji8))) + 1))))) : Int).toNat).drop ((ji8) : Int).toNat)).bind fun bt215 => (if 0 ≤ (wrap64 ((ji8) + (Int.tmod (wrap64 (a2)) (wrap64 ((wrap64 ((t196.length : Int) - (ji8))) + 1))))) then ((agg_Of.f k (t196.drop ((wrap64 ((ji8) + (Int.tmod (wrap64 (a2)) (wrap64 ((wrap64 ((t196.length : Int) - (ji8))) + 1))))) : Int).toNat)).bind fun bt226 => (if t195 = true then ((agg_Join.f bt204.1 bt204.2.1 bt204.2.2.1 bt204.2.2.2.1 bt204.2.2.2.2.1 bt204.2.2.2.2.2 bt215.1 bt215.2.1 bt215.2.2.1 bt215.2.2.2.1 bt215.2.2.2.2.1 bt215.2.2.2.2.2).bind fun bt235 => ((agg_Join.f bt235.1 bt235.2.1 bt235.2.2.1 bt235.2.2.2.1 bt235.2.2.2.2.1 bt235.2.2.2.2.2 bt226.1 bt226.2.1 bt226.2.2.1 bt226.2.2.2.1 bt226.2.2.2.2.1 bt226.2.2.2.2.2).bind fun bt241 => ((agg_Of.f k t196).bind fun bt247 => (if (bt241.1 == bt247.1 && (bt241.2.1 == bt247.2.1 && (bt241.2.2.1 == bt247.2.2.1 && (bt241.2.2.2.1 == bt247.2.2.2.1 && (bt241.2.2.2.2.1 == bt247.2.2.2.2.1 && (bt241.2.2.2.2.2 == bt247.2.2.2.2.2)))))) = true then ((agg_Join.f bt215.1 bt215.2.1 bt215.2.2.1 bt215.2.2.2.1 bt215.2.2.2.2.1 bt215.2.2.2.2.2 bt226.1 bt226.2.1 bt226.2.2.1 bt226.2.2.2.1 bt226.2.2.2.2.1 bt226.2.2.2.2.2).bind fun bt253 => ((agg_Join.f bt204.1 bt204.2.1 bt204.2.2.1 bt204.2.2.2.1 bt204.2.2.2.2.1 bt204.2.2.2.2.2 bt253.1 bt253.2.1 bt253.2.2.1 bt253.2.2.2.1 bt253.2.2.2.2.1 bt253.2.2.2.2.2).bind fun bt259 => ((agg_Of.f k t196).bind fun bt265 => (some (bt259.1 == bt265.1 && (bt259.2.1 == bt265.2.1 && (bt259.2.2.1 == bt265.2.2.1 && (bt259.2.2.2.1 == bt265.2.2.2.1 && (bt259.2.2.2.2.1 == bt265.2.2.2.2.1 && (bt259.2.2.2.2.2 == bt265.2.2.2.2.2)))))))))) else (some false))))) else (some false))) else (none))) else (none)) else (none))) = some r := by first | (rw [hy199]; with_reducible exact H) | (have H2_ := (Option.bind_some _ _).symm.trans H; rw [hy199]; with_reducible exact H2_) | (have H2_ := (Option.bind_some _ _).symm.trans H; with_reducible exact H2_) | with_reducible exact H | (rw [hy199]; exact H) | exact H
 have Ny199 := Aside0.mk hy199
 clear hy199
 replace H := Option.bind_eq_some_iff.mp H
 obtain ⟨⟨t204, t205, t206, t207, t208, t209⟩, A110, H⟩ := H
 (try dsimp only at H)
 have A11 := Aside0.mk A110
 clear A110
 have c12b0 := eq_true (of_decide_eq_true (by first | (with_reducible assumption) | assumption) : 0 ≤ (ji8))
 by_cases c13 : (ji8) ≤ (wrap64 ((ji8) + (Int.tmod (wrap64 (a2)) (wrap64 ((wrap64 ((t196.length : Int) - (ji8))) + 1)))))
 rotate_left
 · rw [if_neg c13] at H
   exact absurd H (by simp)
 rw [if_pos c13] at H
 have c13b0 := eq_true c13
 have c13b1 : decide ((ji8) ≤ (wrap64 ((ji8) + (Int.tmod (wrap64 (a2)) (wrap64 ((wrap64 ((t196.length : Int) - (ji8))) + 1)))))) = true := decide_eq_true c13
 by_cases c14 : (wrap64 ((ji8) + (Int.tmod (wrap64 (a2)) (wrap64 ((wrap64 ((t196.length : Int) - (ji8))) + 1))))) ≤ (t196.length : Int)
 rotate_left
 · rw [if_neg c14] at H
   exact absurd H (by simp)
 rw [if_pos c14] at H
 have c14b0 := eq_true c14
 have c14b1 : decide ((wrap64 ((ji8) + (Int.tmod (wrap64 (a2)) (wrap64 ((wrap64 ((t196.length : Int) - (ji8))) + 1))))) ≤ (t196.length : Int)) = true := decide_eq_true c14
 obtain ⟨y210, hy210⟩ : ∃ y_ : List (S33), y_ = ((t196.take ((wrap64 ((ji8) + (Int.tmod (wrap64 (a2)) (wrap64 ((wrap64 ((t196.length : Int) - (ji8))) + 1))))) : Int).toNat).drop ((ji8) : Int).toNat) := ⟨_, rfl⟩
 replace H : ((agg_Of.f k y210).bind fun bt215 => (if 0 ≤ (wrap64 ((ji8) + (Int.tmod (wrap64 (a2)) (wrap64 ((wrap64 ((t196.length : Int) - (ji8))) + 1))))) then ((agg_Of.f k (t196.drop ((wrap64 ((ji8) + (Int.tmod (wrap64 (a2)) (wrap64 ((wrap64 ((t196.length : Int) - (ji8))) + 1))))) : Int).toNat)).bind fun bt226 => (if t195 = true then ((agg_Join.f t204 t205 t206 t207 t208 t209 bt215.1 bt215.2.1 bt215.2.2.1 bt215.2.2.2.1 bt215.2.2.2.2.1 bt215.2.2.2.2.2).bind fun bt235 => ((agg_Join.f bt235.1 bt235.2.1 bt235.2.2.1 bt235.2.2.2.1 bt235.2.2.2.2.1 bt235.2.2.2.2.2 bt226.1 bt226.2.1 bt226.2.2.1 bt226.2.2.2.1 bt226.2.2.2.2.1 bt226.2.2.2.2.2).bind fun bt241 => ((agg_Of.f k t196).bind fun bt247 => (if (bt241.1 == bt247.1 && (bt241.2.1 == bt247.2.1 && (bt241.2.2.1 == bt247.2.2.1 && (bt241.2.2.2.1 == bt247.2.2.2.1 && (bt241.2.2.2.2.1 == bt247.2.2.2.2.1 && (bt241.2.2.2.2.2 == bt247.2.2.2.2.2)))))) = true then ((agg_Join.f bt215.1 bt215.2.1 bt215.2.2.1 bt215.2.2.2.1 bt215.2.2.2.2.1 bt215.2.2.2.2.2 bt226.1 bt226.2.1 bt226.2.2.1 bt226.2.2.2.1 bt226.2.2.2.2.1 bt226.2.2.2.2.2).bind fun bt253 => ((agg_Join.f t204 t205 t206 t207 t208 t209 bt253.1 bt253.2.1 bt253.2.2.1 bt253.2.2.2.1 bt253.2.2.2.2.1 bt253.2.2.2.2.2).bind fun bt259 => ((agg_Of.f k t196).bind fun bt265 => (some (bt259.1 == bt265.1 && (bt259.2.1 == bt265.2.1 && (bt259.2.2.1 == bt265.2.2.1 && (bt259.2.2.2.1 == bt265.2.2.2.1 && (bt259.2.2.2.2.1 == bt265.2.2.2.2.1 && (bt259.2.2.2.2.2 == bt265.2.2.2.2.2)))))))))) else (some false))))) else (some false))) else (none))) = some r := by first | (rw [hy210]; with_reducible exact H) | (have H2_ := (Option.bind_some _ _).symm.trans H; rw [hy210]; with_reducible exact H2_) | (have H2_ := (Option.bind_some _ _).symm.trans H; with_reducible exact H2_) | with_reducible exact H | (rw [hy210]; exact H) | exact H
 have Ny210 := Aside0.mk hy210
 clear hy210
 replace H := Option.bind_eq_some_iff.mp H
 obtain ⟨⟨t215, t216, t217, t218, t219, t220⟩, A150, H⟩ := H
 (try dsimp only at H)
 have A15 := Aside0.mk A150
 clear A150
 obtain ⟨ji16, hji16⟩ : ∃ j_ : Int, (wrap64 ((ji8) + (Int.tmod (wrap64 (a2)) (wrap64 ((wrap64 ((t196.length : Int) - (ji8))) + 1))))) = j_ := ⟨_, rfl⟩
 replace H : (if 0 ≤ (ji16) then ((agg_Of.f k (t196.drop ((ji16) : Int).toNat)).bind fun bt226 => (if t195 = true then ((agg_Join.f t204 t205 t206 t207 t208 t209 t215 t216 t217 t218 t219 t220).bind fun bt235 => ((agg_Join.f bt235.1 bt235.2.1 bt235.2.2.1 bt235.2.2.2.1 bt235.2.2.2.2.1 bt235.2.2.2.2.2 bt226.1 bt226.2.1 bt226.2.2.1 bt226.2.2.2.1 bt226.2.2.2.2.1 bt226.2.2.2.2.2).bind fun bt241 => ((agg_Of.f k t196).bind fun bt247 => (if (bt241.1 == bt247.1 && (bt241.2.1 == bt247.2.1 && (bt241.2.2.1 == bt247.2.2.1 && (bt241.2.2.2.1 == bt247.2.2.2.1 && (bt241.2.2.2.2.1 == bt247.2.2.2.2.1 && (bt241.2.2.2.2.2 == bt247.2.2.2.2.2)))))) = true then ((agg_Join.f t215 t216 t217 t218 t219 t220 bt226.1 bt226.2.1 bt226.2.2.1 bt226.2.2.2.1 bt226.2.2.2.2.1 bt226.2.2.2.2.2).bind fun bt253 => ((agg_Join.f t204 t205 t206 t207 t208 t209 bt253.1 bt253.2.1 bt253.2.2.1 bt253.2.2.2.1 bt253.2.2.2.2.1 bt253.2.2.2.2.2).bind fun bt259 => ((agg_Of.f k t196).bind fun bt265 => (some (bt259.1 == bt265.1 && (bt259.2.1 == bt265.2.1 && (bt259.2.2.1 == bt265.2.2.1 && (bt259.2.2.2.1 == bt265.2.2.2.1 && (bt259.2.2.2.2.1 == bt265.2.2.2.2.1 && (bt259.2.2.2.2.2 == bt265.2.2.2.2.2)))))))))) else (some false))))) else (some false))) else (none)) = some r := by first | (rw [hji16] at H; exact H) | (simp only [hji16] at H ⊢; exact H)
 (try rw [hji16] at c13b0)
 (try rw [hji16] at c13b1)
 (try rw [hji16] at c13)
 (try rw [hji16] at c14b0)
 (try rw [hji16] at c14b1)
 (try rw [hji16] at c14)
 (try rw [hji16] at A4)
 (try rw [hji16] at A5)
 (try rw [hji16] at A11)
 (try rw [hji16] at Ny210)
 (try rw [hji16] at A15)
 have hji16w : (IntKind.i64.wrap ((ji8) + (Int.tmod (wrap64 (a2)) (wrap64 ((wrap64 ((t196.length : Int) - (ji8))) + 1))))) = ji16 := (i64_w _).trans hji16
 by_cases c17 : 0 ≤ (ji16)
 rotate_left
 · rw [if_neg c17] at H
   exact absurd H (by simp)
 rw [if_pos c17] at H
 have c17b0 := eq_true c17
 have c17b1 : decide (0 ≤ (ji16)) = true := decide_eq_true c17
 clear c17
 have c18b0 := eq_true (of_decide_eq_true (by first | (with_reducible assumption) | assumption) : (ji16) ≤ (t196.length : Int))
 obtain ⟨y221, hy221⟩ : ∃ y_ : List (S33), y_ = (t196.drop ((ji16) : Int).toNat) := ⟨_, rfl⟩
 replace H : ((agg_Of.f k y221).bind fun bt226 => (if t195 = true then ((agg_Join.f t204 t205 t206 t207 t208 t209 t215 t216 t217 t218 t219 t220).bind fun bt235 => ((agg_Join.f bt235.1 bt235.2.1 bt235.2.2.1 bt235.2.2.2.1 bt235.2.2.2.2.1 bt235.2.2.2.2.2 bt226.1 bt226.2.1 bt226.2.2.1 bt226.2.2.2.1 bt226.2.2.2.2.1 bt226.2.2.2.2.2).bind fun bt241 => ((agg_Of.f k t196).bind fun bt247 => (if (bt241.1 == bt247.1 && (bt241.2.1 == bt247.2.1 && (bt241.2.2.1 == bt247.2.2.1 && (bt241.2.2.2.1 == bt247.2.2.2.1 && (bt241.2.2.2.2.1 == bt247.2.2.2.2.1 && (bt241.2.2.2.2.2 == bt247.2.2.2.2.2)))))) = true then ((agg_Join.f t215 t216 t217 t218 t219 t220 bt226.1 bt226.2.1 bt226.2.2.1 bt226.2.2.2.1 bt226.2.2.2.2.1 bt226.2.2.2.2.2).bind fun bt253 => ((agg_Join.f t204 t205 t206 t207 t208 t209 bt253.1 bt253.2.1 bt253.2.2.1 bt253.2.2.2.1 bt253.2.2.2.2.1 bt253.2.2.2.2.2).bind fun bt259 => ((agg_Of.f k t196).bind fun bt265 => (some (bt259.1 == bt265.1 && (bt259.2.1 == bt265.2.1 && (bt259.2.2.1 == bt265.2.2.1 && (bt259.2.2.2.1 == bt265.2.2.2.1 && (bt259.2.2.2.2.1 == bt265.2.2.2.2.1 && (bt259.2.2.2.2.2 == bt265.2.2.2.2.2)))))))))) else (some false))))) else (some false))) = some r := by first | (rw [hy221]; with_reducible exact H) | (have H2_ := (Option.bind_some _ _).symm.trans H; rw [hy221]; with_reducible exact H2_) | (have H2_ := (Option.bind_some _ _).symm.trans H; with_reducible exact H2_) | with_reducible exact H | (rw [hy221]; exact H) | exact H
 have Ny221 := Aside0.mk hy221
 clear hy221
 replace H := Option.bind_eq_some_iff.mp H
 obtain ⟨⟨t226, t227, t228, t229, t230, t231⟩, A190, H⟩ := H
 (try dsimp only at H)
 have A19 := Aside0.mk A190
 clear A190
 have HC_ := Aside0.mk H
 clear H
 go_enter Try.func12, Try.ntmps12
 go_wp2_with (first | ((with_reducible refine gate_callee (f := 28) rfl ?_); refine goesL_ (some 14) rfl rfl Try.func28 (by kernel_rfl) rfl #[] rfl (by (try simp only [List.map_toArray, List.map_cons, List.map_nil]); first | done | rfl | (simp only [List.length_drop, List.length_take]; rfl)) ?_; (with_reducible refine (marigraphlaw12_shown.calls k  t195 _ A4.out).mono ?_); rintro e w28 ⟨rfl, hb⟩; refine ⟨_, rfl, ?_⟩; have n0_ := Aside0.mk (below_step HB.out hb); clear HB; have HB := n0_; clear n0_; (try clear hb); (try clear hb2); (try clear hk); (try clear hi)) | ((with_reducible refine gate_callee (f := 30) rfl ?_); refine goesL_ (some 16) rfl rfl Try.func30 (by kernel_rfl) rfl #[.slice A0 l0.length c0] rfl (by (try simp only [List.map_toArray, List.map_cons, List.map_nil]); first | done | rfl | (simp only [List.length_drop, List.length_take]; rfl)) ?_; (with_reducible refine (marigraphlaw12_few.calls (fun k_ => k_ < w.heap.size) _ _ l0 t196 _ ?side1 A5.out).mono ?_); (case side1 => exact Kd.V_mk HC0.out (Kd.F_below (Kd.C_F k33_heap HR0.out) HB.out)); rintro e w29 ⟨v197, rfl, ho0, hb⟩; refine ⟨_, rfl, ?_⟩; have n0_ := Aside0.mk (Kd.V_lower (Kd.V_mono (ok' := fun k_ => True) ho0 (fun k_ hk_ => trivial)) (below_size HB.out)); have n1_ := Aside0.mk (below_step HB.out hb); clear HB; have HO198 := n0_; have HB := n1_; clear n0_ n1_; (try clear hb); (try clear hb2); (try clear hk); (try clear hi); (try clear ho0); obtain ⟨Ao30, co30, eo30⟩ := Kd.V_slice HO198.out; subst eo30))
 focus (rename_i hz_; exact absurd hz_ (by simpa using c7b0))
 replace HO198 := Aside0.mk (Kd.V_drew HO198.out)
 replace HB := Aside0.mk (below_drew1 HB.out)
 have q32 : ((ji8) : Int) ≤ ((t196.length : Int) : Int) := of_decide_eq_true (by first | (with_reducible assumption) | assumption)
 obtain ⟨i032, hi032, _, hsz32, _⟩ := info_parts info33
 have hroom32 : t196.length ≤ co30 := (Kd.V_reads' HO198.out).2.1
 have hC32 : Kd.F k33 _ _ Ao30 t196.length t196 := (Kd.V_at (base := w.heap.size) HO198.out).2.2
 have hcut32 := cut_to (P := Try.prog) 30 33 .i64 Try.underlying30 hi032 Ao30 t196.length co30 (ji8) (of_decide_eq_true (by first | (with_reducible assumption) | assumption)) q32 hroom32
 have hr32 := Kd.F_take (m := ((ji8) : Int).toNat) hC32 (by omega)
 have hy32 : y199.length = ((ji8) : Int).toNat := (by rw [Ny199.out, List.length_take]; omega)
 rw [← Ny199.out] at hr32
 rw [← hy32] at hcut32
 have HO203 := Aside0.mk (show Kd.V k33 33 _ w.heap.size _ (.slice Ao30 y199.length co30) y199 from Kd.V_mk (by omega) hr32)
 have HC203 := Aside0.mk (show y199.length ≤ co30 from by omega)
 clear hr32 hC32 hroom32 hi032 hsz32
 have KY32 := Aside0.mk hy32
 clear hy32
 replace q32 := eq_true q32
 have q33 : ((ji16) : Int) ≤ ((t196.length : Int) : Int) := of_decide_eq_true (by first | (with_reducible assumption) | assumption)
 obtain ⟨i033, hi033, _, hsz33, _⟩ := info_parts info33
 have hroom33 : t196.length ≤ co30 := (Kd.V_reads' HO198.out).2.1
 have hC33 : Kd.F k33 _ _ Ao30 t196.length t196 := (Kd.V_at (base := w.heap.size) HO198.out).2.2
 have ql33 : ((ji8) : Int) ≤ ((ji16) : Int) := of_decide_eq_true (by first | (with_reducible assumption) | assumption)
 have q033 : (0 : Int) ≤ ((ji8) : Int) := of_decide_eq_true (by first | (with_reducible assumption) | assumption)
 have hcut33 := cut_mid (P := Try.prog) 30 33 .i64 .i64 Try.underlying30 hi033 2 hsz33 Ao30 t196.length co30 (ji8) (ji16) q033 ql33 q33 hroom33
 have hr33 := Kd.F_mid (lo := ((ji8) : Int).toNat) (hi := ((ji16) : Int).toNat) (c := co30) hC33 (by omega) (by omega) hroom33
 obtain ⟨A33, hA33⟩ : ∃ A1, A1 = (if co30 = ((ji8) : Int).toNat then Ao30 else (Ao30 : Option Addr).map (·.add (((ji8) : Int).toNat * 2))) := ⟨_, rfl⟩
 obtain ⟨c33, hc33⟩ : ∃ c1, c1 = co30 - ((ji8) : Int).toNat := ⟨_, rfl⟩
 have hy33 : y210.length = ((ji16) : Int).toNat - ((ji8) : Int).toNat := (by rw [Ny210.out, List.length_drop, List.length_take] <;> omega)
 rw [show ((t196).take ((ji16) : Int).toNat).drop ((ji8) : Int).toNat = y210 from Ny210.out.symm] at hr33
 replace hr33 : Kd.F k33 _ _ A33 y210.length y210 := (by rw [hA33]; exact hr33)
 rw [← hy33, ← hA33, ← hc33] at hcut33
 have HO214 := Aside0.mk (show Kd.V k33 33 _ w.heap.size _ (.slice A33 y210.length c33) y210 from Kd.V_mk (by rw [hy33, hc33]; exact Nat.sub_le_sub_right (Nat.le_trans (by omega) hroom33) _) hr33)
 have HC214 := Aside0.mk (show y210.length ≤ c33 from by rw [hy33, hc33]; exact Nat.sub_le_sub_right (Nat.le_trans (by omega) hroom33) _)
 clear hr33 hC33 hroom33 hi033 hsz33 hc33
 have KY33 := Aside0.mk hy33
 have KA33 := Aside0.mk hA33
 clear hy33 hA33
 replace q33 := eq_true q33
 have q34 : ((ji16) : Int) ≤ ((t196.length : Int) : Int) := of_decide_eq_true (by first | (with_reducible assumption) | assumption)
 obtain ⟨i034, hi034, _, hsz34, _⟩ := info_parts info33
 have hroom34 : t196.length ≤ co30 := (Kd.V_reads' HO198.out).2.1
 have hC34 : Kd.F k33 _ _ Ao30 t196.length t196 := (Kd.V_at (base := w.heap.size) HO198.out).2.2
 have q034 : (0 : Int) ≤ ((ji16) : Int) := of_decide_eq_true (by first | (with_reducible assumption) | assumption)
 have hcut34 := cut_from (P := Try.prog) 30 33 .i64 Try.underlying30 hi034 2 hsz34 Ao30 t196.length co30 (ji16) q034 q34
 have hr34 := Kd.F_cut (m := ((ji16) : Int).toNat) (c := co30) hC34 (by omega) hroom34
 obtain ⟨A34, hA34⟩ : ∃ A1, A1 = (if co30 = ((ji16) : Int).toNat then Ao30 else (Ao30 : Option Addr).map (·.add (((ji16) : Int).toNat * 2))) := ⟨_, rfl⟩
 obtain ⟨c34, hc34⟩ : ∃ c1, c1 = co30 - ((ji16) : Int).toNat := ⟨_, rfl⟩
 have hy34 : y221.length = t196.length - ((ji16) : Int).toNat := (by rw [Ny221.out, List.length_drop] <;> omega)
 rw [show (t196).drop ((ji16) : Int).toNat = y221 from Ny221.out.symm] at hr34
 replace hr34 : Kd.F k33 _ _ A34 y221.length y221 := (by rw [hA34]; exact hr34)
 rw [← hy34, ← hA34, ← hc34] at hcut34
 have HO225 := Aside0.mk (show Kd.V k33 33 _ w.heap.size _ (.slice A34 y221.length c34) y221 from Kd.V_mk (by rw [hy34, hc34]; exact Nat.sub_le_sub_right hroom34 _) hr34)
 have HC225 := Aside0.mk (show y221.length ≤ c34 from by rw [hy34, hc34]; exact Nat.sub_le_sub_right hroom34 _)
 clear hr34 hC34 hroom34 hi034 hsz34 hc34
 have KY34 := Aside0.mk hy34
 have KA34 := Aside0.mk hA34
 clear hy34 hA34
 replace q34 := eq_true q34
 refine start_ (n := 19) (S := fun w' => True) (ds := []) (ra_ [0, 19]) (by kernel_rfl) rfl rfl trivial (fun hHeld => ?_); refine with_tabW marigraphlaw12_AggParts.tab5 marigraphlaw12_AggParts.bits5 (fun HT_ HW_ => ?_)
 generalize w29.drew = w31 at HO198 HB HO203 HO214 HO225 hHeld ⊢
 refine pure_ (i := 0) (N := some 33) (v := ?_) (a' := ?_) (ra_ [1, 18]) rfl rfl (any_of HT_.out (by kernel_rfl)) (fun _ _ _ h => h) (Or.inl ⟨by rfl, ?_⟩) ?_ ?_
 rotate_left
 · intro w'
   go_simp
   with_reducible rfl
 rotate_left
 · simp only [Act.put, sA_, sB_, sC_, i64_w, i32_w]
   rfl
 refine pure_ (i := 1) (N := some 34) (v := ?_) (a' := ?_) (ra_ [2, 17]) rfl rfl (any_of HT_.out (by kernel_rfl)) (fun _ _ _ h => h) (Or.inl ⟨by rfl, ?_⟩) ?_ ?_
 rotate_left
 · intro w'
   go_simp
   with_reducible rfl
 rotate_left
 · simp only [Act.put, sA_, sB_, sC_, i64_w, i32_w]
   rfl
 refine pure_ (i := 2) (N := some 35) (v := ?_) (a' := ?_) (ra_ [3, 16]) rfl rfl (any_of HT_.out (by kernel_rfl)) (fun _ _ _ h => h) (Or.inl ⟨by rfl, ?_⟩) ?_ ?_
 rotate_left
 · intro w'
   go_simp
   with_reducible rfl
 rotate_left
 · simp only [Act.put, sA_, sB_, sC_, i64_w, i32_w]
   rfl
 refine pure_ (i := 4) (N := some 37) (v := ?_) (a' := ?_) (ra_ [3, 1, 1, 14]) rfl rfl (any_of HT_.out (by kernel_rfl)) (fun _ _ _ h => h) (Or.inl ⟨by rfl, ?_⟩) ?_ ?_
 rotate_left
 · intro w'
   go_simp
   with_reducible rfl
 rotate_left
 · simp only [Act.put, sA_, sB_, sC_, i64_w, i32_w]
   rfl
 refine pure_ (i := 5) (N := some 38) (v := ?_) (a' := ?_) (ra_ [3, 1, 2, 13]) rfl rfl (any_of HT_.out (by kernel_rfl)) (fun _ _ _ h => h) (Or.inl ⟨by rfl, ?_⟩) ?_ ?_
 rotate_left
 · intro w'
   go_simp
   with_reducible rfl
 rotate_left
 · simp only [Act.put, sA_, sB_, sC_, i64_w, i32_w]
   rfl
 refine pure_ (i := 6) (N := some 39) (v := ?_) (a' := ?_) (ra_ [3, 1, 3, 12]) rfl rfl (any_of HT_.out (by kernel_rfl)) (fun _ _ _ h => h) (Or.inl ⟨by rfl, ?_⟩) ?_ ?_
 rotate_left
 · intro w'
   go_simp
   with_reducible rfl
 rotate_left
 · simp only [Act.put, sA_, sB_, sC_, i64_w, i32_w]
   rfl
 refine pure_ (i := 7) (N := some 40) (v := ?_) (a' := ?_) (ra_ [3, 1, 4, 11]) rfl rfl (any_of HT_.out (by kernel_rfl)) (fun _ _ _ h => h) (Or.inl ⟨by rfl, ?_⟩) ?_ ?_
 rotate_left
 · intro w'
   go_simp
   with_reducible rfl
 rotate_left
 · simp only [Act.put, sA_, sB_, sC_, i64_w, i32_w]
   rfl
 refine pure_ (i := 9) (N := some 42) (v := ?_) (a' := ?_) (ra_ [3, 1, 4, 1, 1, 9]) rfl rfl (any_of HT_.out (by kernel_rfl)) (fun _ _ _ h => h) (Or.inl ⟨by rfl, ?_⟩) ?_ ?_
 rotate_left
 · intro w'
   go_simp
   with_reducible rfl
 rotate_left
 · simp only [Act.put, sA_, sB_, sC_, i64_w, i32_w]
   rfl
 refine pure_ (i := 10) (N := some 43) (v := ?_) (a' := ?_) (ra_ [3, 1, 4, 1, 2, 8]) rfl rfl (any_of HT_.out (by kernel_rfl)) (fun _ _ _ h => h) (Or.inl ⟨by rfl, ?_⟩) ?_ ?_
 rotate_left
 · intro w'
   go_simp
   with_reducible rfl
 rotate_left
 · simp only [Act.put, sA_, sB_, sC_, i64_w, i32_w]
   rfl
 refine pure_ (i := 11) (N := some 44) (v := ?_) (a' := ?_) (ra_ [3, 1, 4, 1, 3, 7]) rfl rfl (any_of HT_.out (by kernel_rfl)) (fun _ _ _ h => h) (Or.inl ⟨by rfl, ?_⟩) ?_ ?_
 rotate_left
 · intro w'
   go_simp
   with_reducible rfl
 rotate_left
 · simp only [Act.put, sA_, sB_, sC_, i64_w, i32_w]
   rfl
 refine join_ (σ := Nat × Nat × Nat) 3 (ra_ [16, 3]) (fun s_ => [(36, .agg #[.int .i64 t204, .int .i64 t205, .int .i64 t206, .int .i64 t207, .int .i64 t208, .int .i64 t209]), (41, .agg #[.int .i64 t215, .int .i64 t216, .int .i64 t217, .int .i64 t218, .int .i64 t219, .int .i64 t220]), (45, .agg #[.int .i64 t226, .int .i64 t227, .int .i64 t228, .int .i64 t229, .int .i64 t230, .int .i64 t231]), (11, .pointer (some ⟨s_.1, 0, none⟩)), (12, .pointer (some ⟨s_.2.1, 0, none⟩)), (13, .pointer (some ⟨s_.2.2, 0, none⟩))]) (fun s_ w' => (Kd.V k33 33 w' w.heap.size (fun k_ => k_ ≠ s_.1 ∧ k_ ≠ s_.2.1 ∧ k_ ≠ s_.2.2) (.slice Ao30 t196.length co30) t196) ∧ (Kd.V k33 33 w' w.heap.size (fun k_ => k_ ≠ s_.1 ∧ k_ ≠ s_.2.1 ∧ k_ ≠ s_.2.2) (.slice Ao30 y199.length co30) y199) ∧ (Kd.V k33 33 w' w.heap.size (fun k_ => k_ ≠ s_.1 ∧ k_ ≠ s_.2.1 ∧ k_ ≠ s_.2.2) (.slice A33 y210.length c33) y210) ∧ (Kd.V k33 33 w' w.heap.size (fun k_ => k_ ≠ s_.1 ∧ k_ ≠ s_.2.1 ∧ k_ ≠ s_.2.2) (.slice A34 y221.length c34) y221) ∧ (w'.heap[s_.1]? = some Z6_) ∧ (w'.heap[s_.2.1]? = some Z6_) ∧ (w'.heap[s_.2.2]? = some Z6_) ∧ (w.heap.size ≤ s_.1) ∧ (w.heap.size ≤ s_.1) ∧ (s_.2.1 ≠ s_.1) ∧ (s_.1 ≠ s_.2.1) ∧ (s_.2.2 ≠ s_.1) ∧ (s_.1 ≠ s_.2.2) ∧ (w.heap.size ≤ s_.2.1) ∧ (w.heap.size ≤ s_.2.1) ∧ (s_.2.2 ≠ s_.2.1) ∧ (s_.2.1 ≠ s_.2.2) ∧ (w.heap.size ≤ s_.2.2) ∧ (w.heap.size ≤ s_.2.2) ∧ (Below w.heap.size w w')) ?_ ?_
 rotate_left
 · intro hJ3_8_12_13_14_15
   refine join_ (σ := Nat × Nat) 4 (ra_ [15, 4]) (fun s_ => [(36, .agg #[.int .i64 t204, .int .i64 t205, .int .i64 t206, .int .i64 t207, .int .i64 t208, .int .i64 t209]), (41, .agg #[.int .i64 t215, .int .i64 t216, .int .i64 t217, .int .i64 t218, .int .i64 t219, .int .i64 t220]), (45, .agg #[.int .i64 t226, .int .i64 t227, .int .i64 t228, .int .i64 t229, .int .i64 t230, .int .i64 t231]), (11, .pointer (some ⟨s_.1, 0, none⟩)), (12, .pointer (some ⟨s_.2, 0, none⟩))]) (fun s_ w' => (Kd.V k33 33 w' w.heap.size (fun k_ => k_ ≠ s_.1 ∧ k_ ≠ s_.2) (.slice Ao30 t196.length co30) t196) ∧ (Kd.V k33 33 w' w.heap.size (fun k_ => k_ ≠ s_.1 ∧ k_ ≠ s_.2) (.slice Ao30 y199.length co30) y199) ∧ (Kd.V k33 33 w' w.heap.size (fun k_ => k_ ≠ s_.1 ∧ k_ ≠ s_.2) (.slice A33 y210.length c33) y210) ∧ (Kd.V k33 33 w' w.heap.size (fun k_ => k_ ≠ s_.1 ∧ k_ ≠ s_.2) (.slice A34 y221.length c34) y221) ∧ (w'.heap[s_.1]? = some Z6_) ∧ (w'.heap[s_.2]? = some Z6_) ∧ (w.heap.size ≤ s_.1) ∧ (w.heap.size ≤ s_.1) ∧ (s_.2 ≠ s_.1) ∧ (s_.1 ≠ s_.2) ∧ (w.heap.size ≤ s_.2) ∧ (w.heap.size ≤ s_.2) ∧ (Below w.heap.size w w')) ?_ ?_
   rotate_left
   rotate_left
   · skip
     rintro ⟨gb232, gb233⟩ w40 ⟨h0_, h1_, h2_, h3_, h4_, h5_, h6_, h7_, h8_, h9_, h10_, h11_, h12_⟩
     have HO203 : Aside0 (Kd.V k33 33 w40 w.heap.size (fun k_ => k_ ≠ gb232 ∧ k_ ≠ gb233) (.slice Ao30 y199.length co30) y199) := ⟨h1_⟩
     have HO214 : Aside0 (Kd.V k33 33 w40 w.heap.size (fun k_ => k_ ≠ gb232 ∧ k_ ≠ gb233) (.slice A33 y210.length c33) y210) := ⟨h2_⟩
     have HO225 : Aside0 (Kd.V k33 33 w40 w.heap.size (fun k_ => k_ ≠ gb232 ∧ k_ ≠ gb233) (.slice A34 y221.length c34) y221) := ⟨h3_⟩
     have BK232 : Aside0 (w40.heap[gb232]? = some Z6_) := ⟨h4_⟩
     have BK233 : Aside0 (w40.heap[gb233]? = some Z6_) := ⟨h5_⟩
     have GW232 : Aside0 (w.heap.size ≤ gb232) := ⟨h6_⟩
     have GE232 : Aside0 (w.heap.size ≤ gb232) := ⟨h7_⟩
     have NB233_232 : Aside0 (gb233 ≠ gb232) := ⟨h8_⟩
     have NB232_233 : Aside0 (gb232 ≠ gb233) := ⟨h9_⟩
     have GW233 : Aside0 (w.heap.size ≤ gb233) := ⟨h10_⟩
     have GE233 : Aside0 (w.heap.size ≤ gb233) := ⟨h11_⟩
     replace HO198 : Aside0 (Kd.V k33 33 w40 w.heap.size (fun k_ => k_ ≠ gb232 ∧ k_ ≠ gb233) (.slice Ao30 t196.length co30) t196) := ⟨h0_⟩
     replace HB : Aside0 (Below w.heap.size w w40) := ⟨h12_⟩
     clear h0_ h1_ h2_ h3_ h4_ h5_ h6_ h7_ h8_ h9_ h10_ h11_ h12_
     have hHeld := trivial
     refine norm_ (a' := ?_) ?_ ?_
     rotate_left
     · simp only [putAll, Act.put, sA_, sB_, sC_]
       rfl
     refine one_ (i := 15) (N := some 13) (ra_ [16, 3]) rfl rfl (one_of HT_.out (by kernel_rfl)) (by decide) (fun K hK => ?_)
     refine box_step ?hg (N := 13) ?hd (cs := #[.int .i64 0, .int .i64 0, .int .i64 0, .int .i64 0, .int .i64 0, .int .i64 0]) (t := 50) ?hr ?_; (case hd => rfl); (case hg => rfl); (case hr => first | (go_simp; done) | (go_simp; rfl))
     intro gb234 hg w41 hbox hb
     have BK234 := Aside0.mk (hbox)
     have GW234 := Aside0.mk ((by rw [hg]; exact (below_size HB.out) : w.heap.size ≤ gb234))
     have GE234 := Aside0.mk ((by rw [hg]; exact (below_size HB.out) : w.heap.size ≤ gb234))
     have NB232_234 := Aside0.mk ((by rw [hg]; exact Nat.ne_of_lt (blk_lt BK232.out) : gb232 ≠ gb234))
     have NB234_232 := Aside0.mk ((by rw [hg]; exact Nat.ne_of_gt (blk_lt BK232.out) : gb234 ≠ gb232))
     have NB233_234 := Aside0.mk ((by rw [hg]; exact Nat.ne_of_lt (blk_lt BK233.out) : gb233 ≠ gb234))
     have NB234_233 := Aside0.mk ((by rw [hg]; exact Nat.ne_of_gt (blk_lt BK233.out) : gb234 ≠ gb233))
     replace HO198 := Aside0.mk (Kd.V_below (Kd.V_elderB HO198.out gb234 (Nat.le_of_eq hg.symm)) hb)
     replace HO203 := Aside0.mk (Kd.V_below (Kd.V_elderB HO203.out gb234 (Nat.le_of_eq hg.symm)) hb)
     replace HO214 := Aside0.mk (Kd.V_below (Kd.V_elderB HO214.out gb234 (Nat.le_of_eq hg.symm)) hb)
     replace HO225 := Aside0.mk (Kd.V_below (Kd.V_elderB HO225.out gb234 (Nat.le_of_eq hg.symm)) hb)
     replace BK232 := Aside0.mk (blk_below BK232.out hb)
     replace BK233 := Aside0.mk (blk_below BK233.out hb)
     replace HB := Aside0.mk (below_step HB.out hb)
     clear hb hbox hg
     refine hK.out _ _ trivial (fun hHeld => ?_)
     clear hK K
     refine norm_ (a' := ?_) ?_ ?_
     rotate_left
     · show Act.put _ (some 13) _ = _
       simp only [Act.put, sA_, sB_, sC_, i64_w, i32_w]
       rfl
     exact norm_ (by rfl) (hJ3_8_12_13_14_15 (gb232, gb233, gb234) _ ⟨Kd.V_mono HO198.out (fun _ hk => ⟨hk.1.1, ⟨hk.1.2, hk.2⟩⟩), Kd.V_mono HO203.out (fun _ hk => ⟨hk.1.1, ⟨hk.1.2, hk.2⟩⟩), Kd.V_mono HO214.out (fun _ hk => ⟨hk.1.1, ⟨hk.1.2, hk.2⟩⟩), Kd.V_mono HO225.out (fun _ hk => ⟨hk.1.1, ⟨hk.1.2, hk.2⟩⟩), BK232.out, BK233.out, BK234.out, GW232.out, GE232.out, NB233_232.out, NB232_233.out, NB234_232.out, NB232_234.out, GW233.out, GE233.out, NB234_233.out, NB233_234.out, GW234.out, GE234.out, HB.out⟩)
   intro hJ3_8_12_13_14
   refine join_ (σ := Nat × Nat) 4 (ra_ [14, 1, 1, 3]) (fun s_ => [(36, .agg #[.int .i64 t204, .int .i64 t205, .int .i64 t206, .int .i64 t207, .int .i64 t208, .int .i64 t209]), (41, .agg #[.int .i64 t215, .int .i64 t216, .int .i64 t217, .int .i64 t218, .int .i64 t219, .int .i64 t220]), (45, .agg #[.int .i64 t226, .int .i64 t227, .int .i64 t228, .int .i64 t229, .int .i64 t230, .int .i64 t231]), (11, .pointer (some ⟨s_.1, 0, none⟩)), (13, .pointer (some ⟨s_.2, 0, none⟩))]) (fun s_ w' => (Kd.V k33 33 w' w.heap.size (fun k_ => k_ ≠ s_.1 ∧ k_ ≠ s_.2) (.slice Ao30 t196.length co30) t196) ∧ (Kd.V k33 33 w' w.heap.size (fun k_ => k_ ≠ s_.1 ∧ k_ ≠ s_.2) (.slice Ao30 y199.length co30) y199) ∧ (Kd.V k33 33 w' w.heap.size (fun k_ => k_ ≠ s_.1 ∧ k_ ≠ s_.2) (.slice A33 y210.length c33) y210) ∧ (Kd.V k33 33 w' w.heap.size (fun k_ => k_ ≠ s_.1 ∧ k_ ≠ s_.2) (.slice A34 y221.length c34) y221) ∧ (w'.heap[s_.1]? = some Z6_) ∧ (w'.heap[s_.2]? = some Z6_) ∧ (w.heap.size ≤ s_.1) ∧ (w.heap.size ≤ s_.1) ∧ (s_.2 ≠ s_.1) ∧ (s_.1 ≠ s_.2) ∧ (w.heap.size ≤ s_.2) ∧ (w.heap.size ≤ s_.2) ∧ (Below w.heap.size w w')) ?_ ?_
   rotate_left
   rotate_left
   · skip
     rintro ⟨gb232, gb234⟩ w40 ⟨h0_, h1_, h2_, h3_, h4_, h5_, h6_, h7_, h8_, h9_, h10_, h11_, h12_⟩
     have HO203 : Aside0 (Kd.V k33 33 w40 w.heap.size (fun k_ => k_ ≠ gb232 ∧ k_ ≠ gb234) (.slice Ao30 y199.length co30) y199) := ⟨h1_⟩
     have HO214 : Aside0 (Kd.V k33 33 w40 w.heap.size (fun k_ => k_ ≠ gb232 ∧ k_ ≠ gb234) (.slice A33 y210.length c33) y210) := ⟨h2_⟩
     have HO225 : Aside0 (Kd.V k33 33 w40 w.heap.size (fun k_ => k_ ≠ gb232 ∧ k_ ≠ gb234) (.slice A34 y221.length c34) y221) := ⟨h3_⟩
     have BK232 : Aside0 (w40.heap[gb232]? = some Z6_) := ⟨h4_⟩
     have BK234 : Aside0 (w40.heap[gb234]? = some Z6_) := ⟨h5_⟩
     have GW232 : Aside0 (w.heap.size ≤ gb232) := ⟨h6_⟩
     have GE232 : Aside0 (w.heap.size ≤ gb232) := ⟨h7_⟩
     have NB234_232 : Aside0 (gb234 ≠ gb232) := ⟨h8_⟩
     have NB232_234 : Aside0 (gb232 ≠ gb234) := ⟨h9_⟩
     have GW234 : Aside0 (w.heap.size ≤ gb234) := ⟨h10_⟩
     have GE234 : Aside0 (w.heap.size ≤ gb234) := ⟨h11_⟩
     replace HO198 : Aside0 (Kd.V k33 33 w40 w.heap.size (fun k_ => k_ ≠ gb232 ∧ k_ ≠ gb234) (.slice Ao30 t196.length co30) t196) := ⟨h0_⟩
     replace HB : Aside0 (Below w.heap.size w w40) := ⟨h12_⟩
     clear h0_ h1_ h2_ h3_ h4_ h5_ h6_ h7_ h8_ h9_ h10_ h11_ h12_
     have hHeld := trivial
     refine norm_ (a' := ?_) ?_ ?_
     rotate_left
     · simp only [putAll, Act.put, sA_, sB_, sC_]
       rfl
     refine one_ (i := 14) (N := some 12) (ra_ [16, 3]) rfl rfl (one_of HT_.out (by kernel_rfl)) (by decide) (fun K hK => ?_)
     refine box_step ?hg (N := 12) ?hd (cs := #[.int .i64 0, .int .i64 0, .int .i64 0, .int .i64 0, .int .i64 0, .int .i64 0]) (t := 50) ?hr ?_; (case hd => rfl); (case hg => rfl); (case hr => first | (go_simp; done) | (go_simp; rfl))
     intro gb233 hg w41 hbox hb
     have BK233 := Aside0.mk (hbox)
     have GW233 := Aside0.mk ((by rw [hg]; exact (below_size HB.out) : w.heap.size ≤ gb233))
     have GE233 := Aside0.mk ((by rw [hg]; exact (below_size HB.out) : w.heap.size ≤ gb233))
     have NB232_233 := Aside0.mk ((by rw [hg]; exact Nat.ne_of_lt (blk_lt BK232.out) : gb232 ≠ gb233))
     have NB233_232 := Aside0.mk ((by rw [hg]; exact Nat.ne_of_gt (blk_lt BK232.out) : gb233 ≠ gb232))
     have NB234_233 := Aside0.mk ((by rw [hg]; exact Nat.ne_of_lt (blk_lt BK234.out) : gb234 ≠ gb233))
     have NB233_234 := Aside0.mk ((by rw [hg]; exact Nat.ne_of_gt (blk_lt BK234.out) : gb233 ≠ gb234))
     replace HO198 := Aside0.mk (Kd.V_below (Kd.V_elderB HO198.out gb233 (Nat.le_of_eq hg.symm)) hb)
     replace HO203 := Aside0.mk (Kd.V_below (Kd.V_elderB HO203.out gb233 (Nat.le_of_eq hg.symm)) hb)
     replace HO214 := Aside0.mk (Kd.V_below (Kd.V_elderB HO214.out gb233 (Nat.le_of_eq hg.symm)) hb)
     replace HO225 := Aside0.mk (Kd.V_below (Kd.V_elderB HO225.out gb233 (Nat.le_of_eq hg.symm)) hb)
     replace BK232 := Aside0.mk (blk_below BK232.out hb)
     replace BK234 := Aside0.mk (blk_below BK234.out hb)
     replace HB := Aside0.mk (below_step HB.out hb)
     clear hb hbox hg
     refine hK.out _ _ trivial (fun hHeld => ?_)
     clear hK K
     refine norm_ (a' := ?_) ?_ ?_
     rotate_left
     · show Act.put _ (some 12) _ = _
       simp only [Act.put, sA_, sB_, sC_, i64_w, i32_w]
       rfl
     exact norm_ (by rfl) (hJ3_8_12_13_14_15 (gb232, gb233, gb234) _ ⟨Kd.V_mono HO198.out (fun _ hk => ⟨hk.1.1, ⟨hk.2, hk.1.2⟩⟩), Kd.V_mono HO203.out (fun _ hk => ⟨hk.1.1, ⟨hk.2, hk.1.2⟩⟩), Kd.V_mono HO214.out (fun _ hk => ⟨hk.1.1, ⟨hk.2, hk.1.2⟩⟩), Kd.V_mono HO225.out (fun _ hk => ⟨hk.1.1, ⟨hk.2, hk.1.2⟩⟩), BK232.out, BK233.out, BK234.out, GW232.out, GE232.out, NB233_232.out, NB232_233.out, NB234_232.out, NB232_234.out, GW233.out, GE233.out, NB234_233.out, NB233_234.out, GW234.out, GE234.out, HB.out⟩)
   intro hJ3_8_12_13_15
   refine join_ (σ := Nat × Nat) 4 (ra_ [13, 1, 2, 3]) (fun s_ => [(36, .agg #[.int .i64 t204, .int .i64 t205, .int .i64 t206, .int .i64 t207, .int .i64 t208, .int .i64 t209]), (41, .agg #[.int .i64 t215, .int .i64 t216, .int .i64 t217, .int .i64 t218, .int .i64 t219, .int .i64 t220]), (45, .agg #[.int .i64 t226, .int .i64 t227, .int .i64 t228, .int .i64 t229, .int .i64 t230, .int .i64 t231]), (12, .pointer (some ⟨s_.1, 0, none⟩)), (13, .pointer (some ⟨s_.2, 0, none⟩))]) (fun s_ w' => (Kd.V k33 33 w' w.heap.size (fun k_ => k_ ≠ s_.1 ∧ k_ ≠ s_.2) (.slice Ao30 t196.length co30) t196) ∧ (Kd.V k33 33 w' w.heap.size (fun k_ => k_ ≠ s_.1 ∧ k_ ≠ s_.2) (.slice Ao30 y199.length co30) y199) ∧ (Kd.V k33 33 w' w.heap.size (fun k_ => k_ ≠ s_.1 ∧ k_ ≠ s_.2) (.slice A33 y210.length c33) y210) ∧ (Kd.V k33 33 w' w.heap.size (fun k_ => k_ ≠ s_.1 ∧ k_ ≠ s_.2) (.slice A34 y221.length c34) y221) ∧ (w'.heap[s_.1]? = some Z6_) ∧ (w'.heap[s_.2]? = some Z6_) ∧ (w.heap.size ≤ s_.1) ∧ (w.heap.size ≤ s_.1) ∧ (s_.2 ≠ s_.1) ∧ (s_.1 ≠ s_.2) ∧ (w.heap.size ≤ s_.2) ∧ (w.heap.size ≤ s_.2) ∧ (Below w.heap.size w w')) ?_ ?_
   rotate_left
   rotate_left
   · skip
     rintro ⟨gb233, gb234⟩ w40 ⟨h0_, h1_, h2_, h3_, h4_, h5_, h6_, h7_, h8_, h9_, h10_, h11_, h12_⟩
     have HO203 : Aside0 (Kd.V k33 33 w40 w.heap.size (fun k_ => k_ ≠ gb233 ∧ k_ ≠ gb234) (.slice Ao30 y199.length co30) y199) := ⟨h1_⟩
     have HO214 : Aside0 (Kd.V k33 33 w40 w.heap.size (fun k_ => k_ ≠ gb233 ∧ k_ ≠ gb234) (.slice A33 y210.length c33) y210) := ⟨h2_⟩
     have HO225 : Aside0 (Kd.V k33 33 w40 w.heap.size (fun k_ => k_ ≠ gb233 ∧ k_ ≠ gb234) (.slice A34 y221.length c34) y221) := ⟨h3_⟩
     have BK233 : Aside0 (w40.heap[gb233]? = some Z6_) := ⟨h4_⟩
     have BK234 : Aside0 (w40.heap[gb234]? = some Z6_) := ⟨h5_⟩
     have GW233 : Aside0 (w.heap.size ≤ gb233) := ⟨h6_⟩
     have GE233 : Aside0 (w.heap.size ≤ gb233) := ⟨h7_⟩
     have NB234_233 : Aside0 (gb234 ≠ gb233) := ⟨h8_⟩
     have NB233_234 : Aside0 (gb233 ≠ gb234) := ⟨h9_⟩
     have GW234 : Aside0 (w.heap.size ≤ gb234) := ⟨h10_⟩
     have GE234 : Aside0 (w.heap.size ≤ gb234) := ⟨h11_⟩
     replace HO198 : Aside0 (Kd.V k33 33 w40 w.heap.size (fun k_ => k_ ≠ gb233 ∧ k_ ≠ gb234) (.slice Ao30 t196.length co30) t196) := ⟨h0_⟩
     replace HB : Aside0 (Below w.heap.size w w40) := ⟨h12_⟩
     clear h0_ h1_ h2_ h3_ h4_ h5_ h6_ h7_ h8_ h9_ h10_ h11_ h12_
     have hHeld := trivial
     refine norm_ (a' := ?_) ?_ ?_
     rotate_left
     · simp only [putAll, Act.put, sA_, sB_, sC_]
       rfl
     refine one_ (i := 13) (N := some 11) (ra_ [16, 3]) rfl rfl (one_of HT_.out (by kernel_rfl)) (by decide) (fun K hK => ?_)
     refine box_step ?hg (N := 11) ?hd (cs := #[.int .i64 0, .int .i64 0, .int .i64 0, .int .i64 0, .int .i64 0, .int .i64 0]) (t := 50) ?hr ?_; (case hd => rfl); (case hg => rfl); (case hr => first | (go_simp; done) | (go_simp; rfl))
     intro gb232 hg w41 hbox hb
     have BK232 := Aside0.mk (hbox)
     have GW232 := Aside0.mk ((by rw [hg]; exact (below_size HB.out) : w.heap.size ≤ gb232))
     have GE232 := Aside0.mk ((by rw [hg]; exact (below_size HB.out) : w.heap.size ≤ gb232))
     have NB233_232 := Aside0.mk ((by rw [hg]; exact Nat.ne_of_lt (blk_lt BK233.out) : gb233 ≠ gb232))
     have NB232_233 := Aside0.mk ((by rw [hg]; exact Nat.ne_of_gt (blk_lt BK233.out) : gb232 ≠ gb233))
     have NB234_232 := Aside0.mk ((by rw [hg]; exact Nat.ne_of_lt (blk_lt BK234.out) : gb234 ≠ gb232))
     have NB232_234 := Aside0.mk ((by rw [hg]; exact Nat.ne_of_gt (blk_lt BK234.out) : gb232 ≠ gb234))
     replace HO198 := Aside0.mk (Kd.V_below (Kd.V_elderB HO198.out gb232 (Nat.le_of_eq hg.symm)) hb)
     replace HO203 := Aside0.mk (Kd.V_below (Kd.V_elderB HO203.out gb232 (Nat.le_of_eq hg.symm)) hb)
     replace HO214 := Aside0.mk (Kd.V_below (Kd.V_elderB HO214.out gb232 (Nat.le_of_eq hg.symm)) hb)
     replace HO225 := Aside0.mk (Kd.V_below (Kd.V_elderB HO225.out gb232 (Nat.le_of_eq hg.symm)) hb)
     replace BK233 := Aside0.mk (blk_below BK233.out hb)
     replace BK234 := Aside0.mk (blk_below BK234.out hb)
     replace HB := Aside0.mk (below_step HB.out hb)
     clear hb hbox hg
     refine hK.out _ _ trivial (fun hHeld => ?_)
     clear hK K
     refine norm_ (a' := ?_) ?_ ?_
     rotate_left
     · show Act.put _ (some 11) _ = _
       simp only [Act.put, sA_, sB_, sC_, i64_w, i32_w]
       rfl
     exact norm_ (by rfl) (hJ3_8_12_13_14_15 (gb232, gb233, gb234) _ ⟨Kd.V_mono HO198.out (fun _ hk => ⟨hk.2, ⟨hk.1.1, hk.1.2⟩⟩), Kd.V_mono HO203.out (fun _ hk => ⟨hk.2, ⟨hk.1.1, hk.1.2⟩⟩), Kd.V_mono HO214.out (fun _ hk => ⟨hk.2, ⟨hk.1.1, hk.1.2⟩⟩), Kd.V_mono HO225.out (fun _ hk => ⟨hk.2, ⟨hk.1.1, hk.1.2⟩⟩), BK232.out, BK233.out, BK234.out, GW232.out, GE232.out, NB233_232.out, NB232_233.out, NB234_232.out, NB232_234.out, GW233.out, GE233.out, NB234_233.out, NB233_234.out, GW234.out, GE234.out, HB.out⟩)
   intro hJ3_8_12_14_15
   refine join_ (σ := Nat × Nat × Nat) 4 (ra_ [12, 1, 3, 3]) (fun s_ => [(36, .agg #[.int .i64 t204, .int .i64 t205, .int .i64 t206, .int .i64 t207, .int .i64 t208, .int .i64 t209]), (41, .agg #[.int .i64 t215, .int .i64 t216, .int .i64 t217, .int .i64 t218, .int .i64 t219, .int .i64 t220]), (11, .pointer (some ⟨s_.1, 0, none⟩)), (12, .pointer (some ⟨s_.2.1, 0, none⟩)), (13, .pointer (some ⟨s_.2.2, 0, none⟩))]) (fun s_ w' => (Kd.V k33 33 w' w.heap.size (fun k_ => k_ ≠ s_.1 ∧ k_ ≠ s_.2.1 ∧ k_ ≠ s_.2.2) (.slice Ao30 t196.length co30) t196) ∧ (Kd.V k33 33 w' w.heap.size (fun k_ => k_ ≠ s_.1 ∧ k_ ≠ s_.2.1 ∧ k_ ≠ s_.2.2) (.slice Ao30 y199.length co30) y199) ∧ (Kd.V k33 33 w' w.heap.size (fun k_ => k_ ≠ s_.1 ∧ k_ ≠ s_.2.1 ∧ k_ ≠ s_.2.2) (.slice A33 y210.length c33) y210) ∧ (Kd.V k33 33 w' w.heap.size (fun k_ => k_ ≠ s_.1 ∧ k_ ≠ s_.2.1 ∧ k_ ≠ s_.2.2) (.slice A34 y221.length c34) y221) ∧ (w'.heap[s_.1]? = some Z6_) ∧ (w'.heap[s_.2.1]? = some Z6_) ∧ (w'.heap[s_.2.2]? = some Z6_) ∧ (w.heap.size ≤ s_.1) ∧ (w.heap.size ≤ s_.1) ∧ (s_.2.1 ≠ s_.1) ∧ (s_.1 ≠ s_.2.1) ∧ (s_.2.2 ≠ s_.1) ∧ (s_.1 ≠ s_.2.2) ∧ (w.heap.size ≤ s_.2.1) ∧ (w.heap.size ≤ s_.2.1) ∧ (s_.2.2 ≠ s_.2.1) ∧ (s_.2.1 ≠ s_.2.2) ∧ (w.heap.size ≤ s_.2.2) ∧ (w.heap.size ≤ s_.2.2) ∧ (Below w.heap.size w w')) ?_ ?_
   rotate_left
   rotate_left
   · skip
     rintro ⟨gb232, gb233, gb234⟩ w40 ⟨h0_, h1_, h2_, h3_, h4_, h5_, h6_, h7_, h8_, h9_, h10_, h11_, h12_, h13_, h14_, h15_, h16_, h17_, h18_, h19_⟩
     have HO203 : Aside0 (Kd.V k33 33 w40 w.heap.size (fun k_ => k_ ≠ gb232 ∧ k_ ≠ gb233 ∧ k_ ≠ gb234) (.slice Ao30 y199.length co30) y199) := ⟨h1_⟩
     have HO214 : Aside0 (Kd.V k33 33 w40 w.heap.size (fun k_ => k_ ≠ gb232 ∧ k_ ≠ gb233 ∧ k_ ≠ gb234) (.slice A33 y210.length c33) y210) := ⟨h2_⟩
     have HO225 : Aside0 (Kd.V k33 33 w40 w.heap.size (fun k_ => k_ ≠ gb232 ∧ k_ ≠ gb233 ∧ k_ ≠ gb234) (.slice A34 y221.length c34) y221) := ⟨h3_⟩
     have BK232 : Aside0 (w40.heap[gb232]? = some Z6_) := ⟨h4_⟩
     have BK233 : Aside0 (w40.heap[gb233]? = some Z6_) := ⟨h5_⟩
     have BK234 : Aside0 (w40.heap[gb234]? = some Z6_) := ⟨h6_⟩
     have GW232 : Aside0 (w.heap.size ≤ gb232) := ⟨h7_⟩
     have GE232 : Aside0 (w.heap.size ≤ gb232) := ⟨h8_⟩
     have NB233_232 : Aside0 (gb233 ≠ gb232) := ⟨h9_⟩
     have NB232_233 : Aside0 (gb232 ≠ gb233) := ⟨h10_⟩
     have NB234_232 : Aside0 (gb234 ≠ gb232) := ⟨h11_⟩
     have NB232_234 : Aside0 (gb232 ≠ gb234) := ⟨h12_⟩
     have GW233 : Aside0 (w.heap.size ≤ gb233) := ⟨h13_⟩
     have GE233 : Aside0 (w.heap.size ≤ gb233) := ⟨h14_⟩
     have NB234_233 : Aside0 (gb234 ≠ gb233) := ⟨h15_⟩
     have NB233_234 : Aside0 (gb233 ≠ gb234) := ⟨h16_⟩
     have GW234 : Aside0 (w.heap.size ≤ gb234) := ⟨h17_⟩
     have GE234 : Aside0 (w.heap.size ≤ gb234) := ⟨h18_⟩
     replace HO198 : Aside0 (Kd.V k33 33 w40 w.heap.size (fun k_ => k_ ≠ gb232 ∧ k_ ≠ gb233 ∧ k_ ≠ gb234) (.slice Ao30 t196.length co30) t196) := ⟨h0_⟩
     replace HB : Aside0 (Below w.heap.size w w40) := ⟨h19_⟩
     clear h0_ h1_ h2_ h3_ h4_ h5_ h6_ h7_ h8_ h9_ h10_ h11_ h12_ h13_ h14_ h15_ h16_ h17_ h18_ h19_
     have hHeld := trivial
     refine norm_ (a' := ?_) ?_ ?_
     rotate_left
     · simp only [putAll, Act.put, sA_, sB_, sC_]
       rfl
     refine one_ (i := 12) (N := some 45) (ra_ [16, 3]) rfl rfl (one_of HT_.out (by kernel_rfl)) (by decide) (fun K hK => ?_)
     refine goes_ Try.func29 (by kernel_rfl) rfl #[.slice A34 y221.length c34] (by rfl) rfl rfl (by (try simp only [List.map_toArray, List.map_cons, List.map_nil]); first | done | rfl | (simp only [List.length_drop, List.length_take]; rfl)) ?_
     with_reducible refine (agg_Of.calls k _ _ y221 t226 t227 t228 t229 t230 t231 _ ?side1 ?side2 A19.out).mono ?_
     (case side1 => repeat (first | exact (Kd.V_reads' HO225.out).2.2 | (with_reducible refine Kd.C_alloc ?_ _) | (with_reducible refine Kd.C_drewN ?_ _) | (with_reducible refine Kd.C_drew ?_)))
     (case side2 => exact (Kd.V_reads' HO225.out).2.1)
     rintro e w41 ⟨rfl, hb⟩
     refine ⟨_, rfl, ?_⟩
     replace HO198 := Aside0.mk (Kd.V_below HO198.out hb)
     replace HO203 := Aside0.mk (Kd.V_below HO203.out hb)
     replace HO214 := Aside0.mk (Kd.V_below HO214.out hb)
     replace HO225 := Aside0.mk (Kd.V_below HO225.out hb)
     replace BK232 := Aside0.mk (blk_below BK232.out hb)
     replace BK233 := Aside0.mk (blk_below BK233.out hb)
     replace BK234 := Aside0.mk (blk_below BK234.out hb)
     replace HB := Aside0.mk (below_step HB.out hb)
     (try clear hb)
     (try clear hb2)
     (try clear hk)
     (try clear hi)
     refine hK.out _ _ trivial (fun hHeld => ?_)
     clear hK K
     refine norm_ (a' := ?_) ?_ ?_
     rotate_left
     · show Act.put _ (some 45) _ = _
       simp only [Act.put, sA_, sB_, sC_, i64_w, i32_w]
       rfl
     exact norm_ (by rfl) (hJ3_8_12_13_14_15 (gb232, gb233, gb234) _ ⟨HO198.out, HO203.out, HO214.out, HO225.out, BK232.out, BK233.out, BK234.out, GW232.out, GE232.out, NB233_232.out, NB232_233.out, NB234_232.out, NB232_234.out, GW233.out, GE233.out, NB234_233.out, NB233_234.out, GW234.out, GE234.out, HB.out⟩)
   intro hJ3_8_13_14_15
   refine join_ (σ := Nat) 5 (ra_ [14, 5]) (fun s_ => [(36, .agg #[.int .i64 t204, .int .i64 t205, .int .i64 t206, .int .i64 t207, .int .i64 t208, .int .i64 t209]), (41, .agg #[.int .i64 t215, .int .i64 t216, .int .i64 t217, .int .i64 t218, .int .i64 t219, .int .i64 t220]), (45, .agg #[.int .i64 t226, .int .i64 t227, .int .i64 t228, .int .i64 t229, .int .i64 t230, .int .i64 t231]), (11, .pointer (some ⟨s_, 0, none⟩))]) (fun s_ w' => (Kd.V k33 33 w' w.heap.size (fun k_ => k_ ≠ s_) (.slice Ao30 t196.length co30) t196) ∧ (Kd.V k33 33 w' w.heap.size (fun k_ => k_ ≠ s_) (.slice Ao30 y199.length co30) y199) ∧ (Kd.V k33 33 w' w.heap.size (fun k_ => k_ ≠ s_) (.slice A33 y210.length c33) y210) ∧ (Kd.V k33 33 w' w.heap.size (fun k_ => k_ ≠ s_) (.slice A34 y221.length c34) y221) ∧ (w'.heap[s_]? = some Z6_) ∧ (w.heap.size ≤ s_) ∧ (w.heap.size ≤ s_) ∧ (Below w.heap.size w w')) ?_ ?_
   rotate_left
   rotate_left
   · skip
     rintro gb232 w39 ⟨h0_, h1_, h2_, h3_, h4_, h5_, h6_, h7_⟩
     have HO203 : Aside0 (Kd.V k33 33 w39 w.heap.size (fun k_ => k_ ≠ gb232) (.slice Ao30 y199.length co30) y199) := ⟨h1_⟩
     have HO214 : Aside0 (Kd.V k33 33 w39 w.heap.size (fun k_ => k_ ≠ gb232) (.slice A33 y210.length c33) y210) := ⟨h2_⟩
     have HO225 : Aside0 (Kd.V k33 33 w39 w.heap.size (fun k_ => k_ ≠ gb232) (.slice A34 y221.length c34) y221) := ⟨h3_⟩
     have BK232 : Aside0 (w39.heap[gb232]? = some Z6_) := ⟨h4_⟩
     have GW232 : Aside0 (w.heap.size ≤ gb232) := ⟨h5_⟩
     have GE232 : Aside0 (w.heap.size ≤ gb232) := ⟨h6_⟩
     replace HO198 : Aside0 (Kd.V k33 33 w39 w.heap.size (fun k_ => k_ ≠ gb232) (.slice Ao30 t196.length co30) t196) := ⟨h0_⟩
     replace HB : Aside0 (Below w.heap.size w w39) := ⟨h7_⟩
     clear h0_ h1_ h2_ h3_ h4_ h5_ h6_ h7_
     have hHeld := trivial
     refine norm_ (a' := ?_) ?_ ?_
     rotate_left
     · simp only [putAll, Act.put, sA_, sB_, sC_]
       rfl
     refine two_ (i := 14) (j := 15) (Ni := some 12) (Nj := some 13) (ra_ [15, 4]) (ra_ [14, 1, 1, 3]) rfl rfl rfl rfl (two_of HT_.out (by kernel_rfl)) (by decide) (by decide) (fun K hK => ?_) (fun K hK => ?_)
     · skip
       refine box_step ?hg (N := 12) ?hd (cs := #[.int .i64 0, .int .i64 0, .int .i64 0, .int .i64 0, .int .i64 0, .int .i64 0]) (t := 50) ?hr ?_; (case hd => rfl); (case hg => rfl); (case hr => first | (go_simp; done) | (go_simp; rfl))
       intro gb233 hg w40 hbox hb
       have BK233 := Aside0.mk (hbox)
       have GW233 := Aside0.mk ((by rw [hg]; exact (below_size HB.out) : w.heap.size ≤ gb233))
       have GE233 := Aside0.mk ((by rw [hg]; exact (below_size HB.out) : w.heap.size ≤ gb233))
       have NB232_233 := Aside0.mk ((by rw [hg]; exact Nat.ne_of_lt (blk_lt BK232.out) : gb232 ≠ gb233))
       have NB233_232 := Aside0.mk ((by rw [hg]; exact Nat.ne_of_gt (blk_lt BK232.out) : gb233 ≠ gb232))
       replace HO198 := Aside0.mk (Kd.V_below (Kd.V_elderB HO198.out gb233 (Nat.le_of_eq hg.symm)) hb)
       replace HO203 := Aside0.mk (Kd.V_below (Kd.V_elderB HO203.out gb233 (Nat.le_of_eq hg.symm)) hb)
       replace HO214 := Aside0.mk (Kd.V_below (Kd.V_elderB HO214.out gb233 (Nat.le_of_eq hg.symm)) hb)
       replace HO225 := Aside0.mk (Kd.V_below (Kd.V_elderB HO225.out gb233 (Nat.le_of_eq hg.symm)) hb)
       replace BK232 := Aside0.mk (blk_below BK232.out hb)
       replace HB := Aside0.mk (below_step HB.out hb)
       clear hb hbox hg
       refine hK.out _ _ trivial (fun hHeld => ?_)
       clear hK K
       refine norm_ (a' := ?_) ?_ ?_
       rotate_left
       · show Act.put _ (some 12) _ = _
         simp only [Act.put, sA_, sB_, sC_, i64_w, i32_w]
         rfl
       exact norm_ (by rfl) (hJ3_8_12_13_14 (gb232, gb233) _ ⟨HO198.out, HO203.out, HO214.out, HO225.out, BK232.out, BK233.out, GW232.out, GE232.out, NB233_232.out, NB232_233.out, GW233.out, GE233.out, HB.out⟩)
     skip
     refine box_step ?hg (N := 13) ?hd (cs := #[.int .i64 0, .int .i64 0, .int .i64 0, .int .i64 0, .int .i64 0, .int .i64 0]) (t := 50) ?hr ?_; (case hd => rfl); (case hg => rfl); (case hr => first | (go_simp; done) | (go_simp; rfl))
     intro gb234 hg w40 hbox hb
     have BK234 := Aside0.mk (hbox)
     have GW234 := Aside0.mk ((by rw [hg]; exact (below_size HB.out) : w.heap.size ≤ gb234))
     have GE234 := Aside0.mk ((by rw [hg]; exact (below_size HB.out) : w.heap.size ≤ gb234))
     have NB232_234 := Aside0.mk ((by rw [hg]; exact Nat.ne_of_lt (blk_lt BK232.out) : gb232 ≠ gb234))
     have NB234_232 := Aside0.mk ((by rw [hg]; exact Nat.ne_of_gt (blk_lt BK232.out) : gb234 ≠ gb232))
     replace HO198 := Aside0.mk (Kd.V_below (Kd.V_elderB HO198.out gb234 (Nat.le_of_eq hg.symm)) hb)
     replace HO203 := Aside0.mk (Kd.V_below (Kd.V_elderB HO203.out gb234 (Nat.le_of_eq hg.symm)) hb)
     replace HO214 := Aside0.mk (Kd.V_below (Kd.V_elderB HO214.out gb234 (Nat.le_of_eq hg.symm)) hb)
     replace HO225 := Aside0.mk (Kd.V_below (Kd.V_elderB HO225.out gb234 (Nat.le_of_eq hg.symm)) hb)
     replace BK232 := Aside0.mk (blk_below BK232.out hb)
     replace HB := Aside0.mk (below_step HB.out hb)
     clear hb hbox hg
     refine hK.out _ _ trivial (fun hHeld => ?_)
     clear hK K
     refine norm_ (a' := ?_) ?_ ?_
     rotate_left
     · show Act.put _ (some 13) _ = _
       simp only [Act.put, sA_, sB_, sC_, i64_w, i32_w]
       rfl
     exact norm_ (by rfl) (hJ3_8_12_13_15 (gb232, gb234) _ ⟨HO198.out, HO203.out, HO214.out, HO225.out, BK232.out, BK234.out, GW232.out, GE232.out, NB234_232.out, NB232_234.out, GW234.out, GE234.out, HB.out⟩)
   intro hJ3_8_12_13
   refine join_ (σ := Nat) 5 (ra_ [13, 1, 1, 4]) (fun s_ => [(36, .agg #[.int .i64 t204, .int .i64 t205, .int .i64 t206, .int .i64 t207, .int .i64 t208, .int .i64 t209]), (41, .agg #[.int .i64 t215, .int .i64 t216, .int .i64 t217, .int .i64 t218, .int .i64 t219, .int .i64 t220]), (45, .agg #[.int .i64 t226, .int .i64 t227, .int .i64 t228, .int .i64 t229, .int .i64 t230, .int .i64 t231]), (12, .pointer (some ⟨s_, 0, none⟩))]) (fun s_ w' => (Kd.V k33 33 w' w.heap.size (fun k_ => k_ ≠ s_) (.slice Ao30 t196.length co30) t196) ∧ (Kd.V k33 33 w' w.heap.size (fun k_ => k_ ≠ s_) (.slice Ao30 y199.length co30) y199) ∧ (Kd.V k33 33 w' w.heap.size (fun k_ => k_ ≠ s_) (.slice A33 y210.length c33) y210) ∧ (Kd.V k33 33 w' w.heap.size (fun k_ => k_ ≠ s_) (.slice A34 y221.length c34) y221) ∧ (w'.heap[s_]? = some Z6_) ∧ (w.heap.size ≤ s_) ∧ (w.heap.size ≤ s_) ∧ (Below w.heap.size w w')) ?_ ?_
   rotate_left
   rotate_left
   · skip
     rintro gb233 w39 ⟨h0_, h1_, h2_, h3_, h4_, h5_, h6_, h7_⟩
     have HO203 : Aside0 (Kd.V k33 33 w39 w.heap.size (fun k_ => k_ ≠ gb233) (.slice Ao30 y199.length co30) y199) := ⟨h1_⟩
     have HO214 : Aside0 (Kd.V k33 33 w39 w.heap.size (fun k_ => k_ ≠ gb233) (.slice A33 y210.length c33) y210) := ⟨h2_⟩
     have HO225 : Aside0 (Kd.V k33 33 w39 w.heap.size (fun k_ => k_ ≠ gb233) (.slice A34 y221.length c34) y221) := ⟨h3_⟩
     have BK233 : Aside0 (w39.heap[gb233]? = some Z6_) := ⟨h4_⟩
     have GW233 : Aside0 (w.heap.size ≤ gb233) := ⟨h5_⟩
     have GE233 : Aside0 (w.heap.size ≤ gb233) := ⟨h6_⟩
     replace HO198 : Aside0 (Kd.V k33 33 w39 w.heap.size (fun k_ => k_ ≠ gb233) (.slice Ao30 t196.length co30) t196) := ⟨h0_⟩
     replace HB : Aside0 (Below w.heap.size w w39) := ⟨h7_⟩
     clear h0_ h1_ h2_ h3_ h4_ h5_ h6_ h7_
     have hHeld := trivial
     refine norm_ (a' := ?_) ?_ ?_
     rotate_left
     · simp only [putAll, Act.put, sA_, sB_, sC_]
       rfl
     refine two_ (i := 13) (j := 15) (Ni := some 11) (Nj := some 13) (ra_ [15, 4]) (ra_ [13, 1, 2, 3]) rfl rfl rfl rfl (two_of HT_.out (by kernel_rfl)) (by decide) (by decide) (fun K hK => ?_) (fun K hK => ?_)
     · skip
       refine box_step ?hg (N := 11) ?hd (cs := #[.int .i64 0, .int .i64 0, .int .i64 0, .int .i64 0, .int .i64 0, .int .i64 0]) (t := 50) ?hr ?_; (case hd => rfl); (case hg => rfl); (case hr => first | (go_simp; done) | (go_simp; rfl))
       intro gb232 hg w40 hbox hb
       have BK232 := Aside0.mk (hbox)
       have GW232 := Aside0.mk ((by rw [hg]; exact (below_size HB.out) : w.heap.size ≤ gb232))
       have GE232 := Aside0.mk ((by rw [hg]; exact (below_size HB.out) : w.heap.size ≤ gb232))
       have NB233_232 := Aside0.mk ((by rw [hg]; exact Nat.ne_of_lt (blk_lt BK233.out) : gb233 ≠ gb232))
       have NB232_233 := Aside0.mk ((by rw [hg]; exact Nat.ne_of_gt (blk_lt BK233.out) : gb232 ≠ gb233))
       replace HO198 := Aside0.mk (Kd.V_below (Kd.V_elderB HO198.out gb232 (Nat.le_of_eq hg.symm)) hb)
       replace HO203 := Aside0.mk (Kd.V_below (Kd.V_elderB HO203.out gb232 (Nat.le_of_eq hg.symm)) hb)
       replace HO214 := Aside0.mk (Kd.V_below (Kd.V_elderB HO214.out gb232 (Nat.le_of_eq hg.symm)) hb)
       replace HO225 := Aside0.mk (Kd.V_below (Kd.V_elderB HO225.out gb232 (Nat.le_of_eq hg.symm)) hb)
       replace BK233 := Aside0.mk (blk_below BK233.out hb)
       replace HB := Aside0.mk (below_step HB.out hb)
       clear hb hbox hg
       refine hK.out _ _ trivial (fun hHeld => ?_)
       clear hK K
       refine norm_ (a' := ?_) ?_ ?_
       rotate_left
       · show Act.put _ (some 11) _ = _
         simp only [Act.put, sA_, sB_, sC_, i64_w, i32_w]
         rfl
       exact norm_ (by rfl) (hJ3_8_12_13_14 (gb232, gb233) _ ⟨Kd.V_mono HO198.out (fun _ hk => ⟨hk.2, hk.1⟩), Kd.V_mono HO203.out (fun _ hk => ⟨hk.2, hk.1⟩), Kd.V_mono HO214.out (fun _ hk => ⟨hk.2, hk.1⟩), Kd.V_mono HO225.out (fun _ hk => ⟨hk.2, hk.1⟩), BK232.out, BK233.out, GW232.out, GE232.out, NB233_232.out, NB232_233.out, GW233.out, GE233.out, HB.out⟩)
     skip
     refine box_step ?hg (N := 13) ?hd (cs := #[.int .i64 0, .int .i64 0, .int .i64 0, .int .i64 0, .int .i64 0, .int .i64 0]) (t := 50) ?hr ?_; (case hd => rfl); (case hg => rfl); (case hr => first | (go_simp; done) | (go_simp; rfl))
     intro gb234 hg w40 hbox hb
     have BK234 := Aside0.mk (hbox)
     have GW234 := Aside0.mk ((by rw [hg]; exact (below_size HB.out) : w.heap.size ≤ gb234))
     have GE234 := Aside0.mk ((by rw [hg]; exact (below_size HB.out) : w.heap.size ≤ gb234))
     have NB233_234 := Aside0.mk ((by rw [hg]; exact Nat.ne_of_lt (blk_lt BK233.out) : gb233 ≠ gb234))
     have NB234_233 := Aside0.mk ((by rw [hg]; exact Nat.ne_of_gt (blk_lt BK233.out) : gb234 ≠ gb233))
     replace HO198 := Aside0.mk (Kd.V_below (Kd.V_elderB HO198.out gb234 (Nat.le_of_eq hg.symm)) hb)
     replace HO203 := Aside0.mk (Kd.V_below (Kd.V_elderB HO203.out gb234 (Nat.le_of_eq hg.symm)) hb)
     replace HO214 := Aside0.mk (Kd.V_below (Kd.V_elderB HO214.out gb234 (Nat.le_of_eq hg.symm)) hb)
     replace HO225 := Aside0.mk (Kd.V_below (Kd.V_elderB HO225.out gb234 (Nat.le_of_eq hg.symm)) hb)
     replace BK233 := Aside0.mk (blk_below BK233.out hb)
     replace HB := Aside0.mk (below_step HB.out hb)
     clear hb hbox hg
     refine hK.out _ _ trivial (fun hHeld => ?_)
     clear hK K
     refine norm_ (a' := ?_) ?_ ?_
     rotate_left
     · show Act.put _ (some 13) _ = _
       simp only [Act.put, sA_, sB_, sC_, i64_w, i32_w]
       rfl
     exact norm_ (by rfl) (hJ3_8_12_14_15 (gb233, gb234) _ ⟨HO198.out, HO203.out, HO214.out, HO225.out, BK233.out, BK234.out, GW233.out, GE233.out, NB234_233.out, NB233_234.out, GW234.out, GE234.out, HB.out⟩)
   intro hJ3_8_12_14
   refine join_ (σ := Nat) 5 (ra_ [13, 2, 1, 3]) (fun s_ => [(36, .agg #[.int .i64 t204, .int .i64 t205, .int .i64 t206, .int .i64 t207, .int .i64 t208, .int .i64 t209]), (41, .agg #[.int .i64 t215, .int .i64 t216, .int .i64 t217, .int .i64 t218, .int .i64 t219, .int .i64 t220]), (45, .agg #[.int .i64 t226, .int .i64 t227, .int .i64 t228, .int .i64 t229, .int .i64 t230, .int .i64 t231]), (13, .pointer (some ⟨s_, 0, none⟩))]) (fun s_ w' => (Kd.V k33 33 w' w.heap.size (fun k_ => k_ ≠ s_) (.slice Ao30 t196.length co30) t196) ∧ (Kd.V k33 33 w' w.heap.size (fun k_ => k_ ≠ s_) (.slice Ao30 y199.length co30) y199) ∧ (Kd.V k33 33 w' w.heap.size (fun k_ => k_ ≠ s_) (.slice A33 y210.length c33) y210) ∧ (Kd.V k33 33 w' w.heap.size (fun k_ => k_ ≠ s_) (.slice A34 y221.length c34) y221) ∧ (w'.heap[s_]? = some Z6_) ∧ (w.heap.size ≤ s_) ∧ (w.heap.size ≤ s_) ∧ (Below w.heap.size w w')) ?_ ?_
   rotate_left
   rotate_left
   · skip
     rintro gb234 w39 ⟨h0_, h1_, h2_, h3_, h4_, h5_, h6_, h7_⟩
     have HO203 : Aside0 (Kd.V k33 33 w39 w.heap.size (fun k_ => k_ ≠ gb234) (.slice Ao30 y199.length co30) y199) := ⟨h1_⟩
     have HO214 : Aside0 (Kd.V k33 33 w39 w.heap.size (fun k_ => k_ ≠ gb234) (.slice A33 y210.length c33) y210) := ⟨h2_⟩
     have HO225 : Aside0 (Kd.V k33 33 w39 w.heap.size (fun k_ => k_ ≠ gb234) (.slice A34 y221.length c34) y221) := ⟨h3_⟩
     have BK234 : Aside0 (w39.heap[gb234]? = some Z6_) := ⟨h4_⟩
     have GW234 : Aside0 (w.heap.size ≤ gb234) := ⟨h5_⟩
     have GE234 : Aside0 (w.heap.size ≤ gb234) := ⟨h6_⟩
     replace HO198 : Aside0 (Kd.V k33 33 w39 w.heap.size (fun k_ => k_ ≠ gb234) (.slice Ao30 t196.length co30) t196) := ⟨h0_⟩
     replace HB : Aside0 (Below w.heap.size w w39) := ⟨h7_⟩
     clear h0_ h1_ h2_ h3_ h4_ h5_ h6_ h7_
     have hHeld := trivial
     refine norm_ (a' := ?_) ?_ ?_
     rotate_left
     · simp only [putAll, Act.put, sA_, sB_, sC_]
       rfl
     refine two_ (i := 13) (j := 14) (Ni := some 11) (Nj := some 12) (ra_ [14, 1, 1, 3]) (ra_ [13, 1, 2, 3]) rfl rfl rfl rfl (two_of HT_.out (by kernel_rfl)) (by decide) (by decide) (fun K hK => ?_) (fun K hK => ?_)
     · skip
       refine box_step ?hg (N := 11) ?hd (cs := #[.int .i64 0, .int .i64 0, .int .i64 0, .int .i64 0, .int .i64 0, .int .i64 0]) (t := 50) ?hr ?_; (case hd => rfl); (case hg => rfl); (case hr => first | (go_simp; done) | (go_simp; rfl))
       intro gb232 hg w40 hbox hb
       have BK232 := Aside0.mk (hbox)
       have GW232 := Aside0.mk ((by rw [hg]; exact (below_size HB.out) : w.heap.size ≤ gb232))
       have GE232 := Aside0.mk ((by rw [hg]; exact (below_size HB.out) : w.heap.size ≤ gb232))
       have NB234_232 := Aside0.mk ((by rw [hg]; exact Nat.ne_of_lt (blk_lt BK234.out) : gb234 ≠ gb232))
       have NB232_234 := Aside0.mk ((by rw [hg]; exact Nat.ne_of_gt (blk_lt BK234.out) : gb232 ≠ gb234))
       replace HO198 := Aside0.mk (Kd.V_below (Kd.V_elderB HO198.out gb232 (Nat.le_of_eq hg.symm)) hb)
       replace HO203 := Aside0.mk (Kd.V_below (Kd.V_elderB HO203.out gb232 (Nat.le_of_eq hg.symm)) hb)
       replace HO214 := Aside0.mk (Kd.V_below (Kd.V_elderB HO214.out gb232 (Nat.le_of_eq hg.symm)) hb)
       replace HO225 := Aside0.mk (Kd.V_below (Kd.V_elderB HO225.out gb232 (Nat.le_of_eq hg.symm)) hb)
       replace BK234 := Aside0.mk (blk_below BK234.out hb)
       replace HB := Aside0.mk (below_step HB.out hb)
       clear hb hbox hg
       refine hK.out _ _ trivial (fun hHeld => ?_)
       clear hK K
       refine norm_ (a' := ?_) ?_ ?_
       rotate_left
       · show Act.put _ (some 11) _ = _
         simp only [Act.put, sA_, sB_, sC_, i64_w, i32_w]
         rfl
       exact norm_ (by rfl) (hJ3_8_12_13_15 (gb232, gb234) _ ⟨Kd.V_mono HO198.out (fun _ hk => ⟨hk.2, hk.1⟩), Kd.V_mono HO203.out (fun _ hk => ⟨hk.2, hk.1⟩), Kd.V_mono HO214.out (fun _ hk => ⟨hk.2, hk.1⟩), Kd.V_mono HO225.out (fun _ hk => ⟨hk.2, hk.1⟩), BK232.out, BK234.out, GW232.out, GE232.out, NB234_232.out, NB232_234.out, GW234.out, GE234.out, HB.out⟩)
     skip
     refine box_step ?hg (N := 12) ?hd (cs := #[.int .i64 0, .int .i64 0, .int .i64 0, .int .i64 0, .int .i64 0, .int .i64 0]) (t := 50) ?hr ?_; (case hd => rfl); (case hg => rfl); (case hr => first | (go_simp; done) | (go_simp; rfl))
     intro gb233 hg w40 hbox hb
     have BK233 := Aside0.mk (hbox)
     have GW233 := Aside0.mk ((by rw [hg]; exact (below_size HB.out) : w.heap.size ≤ gb233))
     have GE233 := Aside0.mk ((by rw [hg]; exact (below_size HB.out) : w.heap.size ≤ gb233))
     have NB234_233 := Aside0.mk ((by rw [hg]; exact Nat.ne_of_lt (blk_lt BK234.out) : gb234 ≠ gb233))
     have NB233_234 := Aside0.mk ((by rw [hg]; exact Nat.ne_of_gt (blk_lt BK234.out) : gb233 ≠ gb234))
     replace HO198 := Aside0.mk (Kd.V_below (Kd.V_elderB HO198.out gb233 (Nat.le_of_eq hg.symm)) hb)
     replace HO203 := Aside0.mk (Kd.V_below (Kd.V_elderB HO203.out gb233 (Nat.le_of_eq hg.symm)) hb)
     replace HO214 := Aside0.mk (Kd.V_below (Kd.V_elderB HO214.out gb233 (Nat.le_of_eq hg.symm)) hb)
     replace HO225 := Aside0.mk (Kd.V_below (Kd.V_elderB HO225.out gb233 (Nat.le_of_eq hg.symm)) hb)
     replace BK234 := Aside0.mk (blk_below BK234.out hb)
     replace HB := Aside0.mk (below_step HB.out hb)
     clear hb hbox hg
     refine hK.out _ _ trivial (fun hHeld => ?_)
     clear hK K
     refine norm_ (a' := ?_) ?_ ?_
     rotate_left
     · show Act.put _ (some 12) _ = _
       simp only [Act.put, sA_, sB_, sC_, i64_w, i32_w]
       rfl
     exact norm_ (by rfl) (hJ3_8_12_14_15 (gb233, gb234) _ ⟨Kd.V_mono HO198.out (fun _ hk => ⟨hk.2, hk.1⟩), Kd.V_mono HO203.out (fun _ hk => ⟨hk.2, hk.1⟩), Kd.V_mono HO214.out (fun _ hk => ⟨hk.2, hk.1⟩), Kd.V_mono HO225.out (fun _ hk => ⟨hk.2, hk.1⟩), BK233.out, BK234.out, GW233.out, GE233.out, NB234_233.out, NB233_234.out, GW234.out, GE234.out, HB.out⟩)
   intro hJ3_8_12_15
   refine join_ (σ := Nat × Nat) 5 (ra_ [12, 1, 2, 4]) (fun s_ => [(36, .agg #[.int .i64 t204, .int .i64 t205, .int .i64 t206, .int .i64 t207, .int .i64 t208, .int .i64 t209]), (41, .agg #[.int .i64 t215, .int .i64 t216, .int .i64 t217, .int .i64 t218, .int .i64 t219, .int .i64 t220]), (11, .pointer (some ⟨s_.1, 0, none⟩)), (12, .pointer (some ⟨s_.2, 0, none⟩))]) (fun s_ w' => (Kd.V k33 33 w' w.heap.size (fun k_ => k_ ≠ s_.1 ∧ k_ ≠ s_.2) (.slice Ao30 t196.length co30) t196) ∧ (Kd.V k33 33 w' w.heap.size (fun k_ => k_ ≠ s_.1 ∧ k_ ≠ s_.2) (.slice Ao30 y199.length co30) y199) ∧ (Kd.V k33 33 w' w.heap.size (fun k_ => k_ ≠ s_.1 ∧ k_ ≠ s_.2) (.slice A33 y210.length c33) y210) ∧ (Kd.V k33 33 w' w.heap.size (fun k_ => k_ ≠ s_.1 ∧ k_ ≠ s_.2) (.slice A34 y221.length c34) y221) ∧ (w'.heap[s_.1]? = some Z6_) ∧ (w'.heap[s_.2]? = some Z6_) ∧ (w.heap.size ≤ s_.1) ∧ (w.heap.size ≤ s_.1) ∧ (s_.2 ≠ s_.1) ∧ (s_.1 ≠ s_.2) ∧ (w.heap.size ≤ s_.2) ∧ (w.heap.size ≤ s_.2) ∧ (Below w.heap.size w w')) ?_ ?_
   rotate_left
   rotate_left
   · skip
     rintro ⟨gb232, gb233⟩ w39 ⟨h0_, h1_, h2_, h3_, h4_, h5_, h6_, h7_, h8_, h9_, h10_, h11_, h12_⟩
     have HO203 : Aside0 (Kd.V k33 33 w39 w.heap.size (fun k_ => k_ ≠ gb232 ∧ k_ ≠ gb233) (.slice Ao30 y199.length co30) y199) := ⟨h1_⟩
     have HO214 : Aside0 (Kd.V k33 33 w39 w.heap.size (fun k_ => k_ ≠ gb232 ∧ k_ ≠ gb233) (.slice A33 y210.length c33) y210) := ⟨h2_⟩
     have HO225 : Aside0 (Kd.V k33 33 w39 w.heap.size (fun k_ => k_ ≠ gb232 ∧ k_ ≠ gb233) (.slice A34 y221.length c34) y221) := ⟨h3_⟩
     have BK232 : Aside0 (w39.heap[gb232]? = some Z6_) := ⟨h4_⟩
     have BK233 : Aside0 (w39.heap[gb233]? = some Z6_) := ⟨h5_⟩
     have GW232 : Aside0 (w.heap.size ≤ gb232) := ⟨h6_⟩
     have GE232 : Aside0 (w.heap.size ≤ gb232) := ⟨h7_⟩
     have NB233_232 : Aside0 (gb233 ≠ gb232) := ⟨h8_⟩
     have NB232_233 : Aside0 (gb232 ≠ gb233) := ⟨h9_⟩
     have GW233 : Aside0 (w.heap.size ≤ gb233) := ⟨h10_⟩
     have GE233 : Aside0 (w.heap.size ≤ gb233) := ⟨h11_⟩
     replace HO198 : Aside0 (Kd.V k33 33 w39 w.heap.size (fun k_ => k_ ≠ gb232 ∧ k_ ≠ gb233) (.slice Ao30 t196.length co30) t196) := ⟨h0_⟩
     replace HB : Aside0 (Below w.heap.size w w39) := ⟨h12_⟩
     clear h0_ h1_ h2_ h3_ h4_ h5_ h6_ h7_ h8_ h9_ h10_ h11_ h12_
     have hHeld := trivial
     refine norm_ (a' := ?_) ?_ ?_
     rotate_left
     · simp only [putAll, Act.put, sA_, sB_, sC_]
       rfl
     refine two_ (i := 12) (j := 15) (Ni := some 45) (Nj := some 13) (ra_ [15, 4]) (ra_ [12, 1, 3, 3]) rfl rfl rfl rfl (two_of HT_.out (by kernel_rfl)) (by decide) (by decide) (fun K hK => ?_) (fun K hK => ?_)
     · skip
       refine goes_ Try.func29 (by kernel_rfl) rfl #[.slice A34 y221.length c34] (by rfl) rfl rfl (by (try simp only [List.map_toArray, List.map_cons, List.map_nil]); first | done | rfl | (simp only [List.length_drop, List.length_take]; rfl)) ?_
       with_reducible refine (agg_Of.calls k _ _ y221 t226 t227 t228 t229 t230 t231 _ ?side1 ?side2 A19.out).mono ?_
       (case side1 => repeat (first | exact (Kd.V_reads' HO225.out).2.2 | (with_reducible refine Kd.C_alloc ?_ _) | (with_reducible refine Kd.C_drewN ?_ _) | (with_reducible refine Kd.C_drew ?_)))
       (case side2 => exact (Kd.V_reads' HO225.out).2.1)
       rintro e w40 ⟨rfl, hb⟩
       refine ⟨_, rfl, ?_⟩
       replace HO198 := Aside0.mk (Kd.V_below HO198.out hb)
       replace HO203 := Aside0.mk (Kd.V_below HO203.out hb)
       replace HO214 := Aside0.mk (Kd.V_below HO214.out hb)
       replace HO225 := Aside0.mk (Kd.V_below HO225.out hb)
       replace BK232 := Aside0.mk (blk_below BK232.out hb)
       replace BK233 := Aside0.mk (blk_below BK233.out hb)
       replace HB := Aside0.mk (below_step HB.out hb)
       (try clear hb)
       (try clear hb2)
       (try clear hk)
       (try clear hi)
       refine hK.out _ _ trivial (fun hHeld => ?_)
       clear hK K
       refine norm_ (a' := ?_) ?_ ?_
       rotate_left
       · show Act.put _ (some 45) _ = _
         simp only [Act.put, sA_, sB_, sC_, i64_w, i32_w]
         rfl
       exact norm_ (by rfl) (hJ3_8_12_13_14 (gb232, gb233) _ ⟨HO198.out, HO203.out, HO214.out, HO225.out, BK232.out, BK233.out, GW232.out, GE232.out, NB233_232.out, NB232_233.out, GW233.out, GE233.out, HB.out⟩)
     skip
     refine box_step ?hg (N := 13) ?hd (cs := #[.int .i64 0, .int .i64 0, .int .i64 0, .int .i64 0, .int .i64 0, .int .i64 0]) (t := 50) ?hr ?_; (case hd => rfl); (case hg => rfl); (case hr => first | (go_simp; done) | (go_simp; rfl))
     intro gb234 hg w40 hbox hb
     have BK234 := Aside0.mk (hbox)
     have GW234 := Aside0.mk ((by rw [hg]; exact (below_size HB.out) : w.heap.size ≤ gb234))
     have GE234 := Aside0.mk ((by rw [hg]; exact (below_size HB.out) : w.heap.size ≤ gb234))
     have NB232_234 := Aside0.mk ((by rw [hg]; exact Nat.ne_of_lt (blk_lt BK232.out) : gb232 ≠ gb234))
     have NB234_232 := Aside0.mk ((by rw [hg]; exact Nat.ne_of_gt (blk_lt BK232.out) : gb234 ≠ gb232))
     have NB233_234 := Aside0.mk ((by rw [hg]; exact Nat.ne_of_lt (blk_lt BK233.out) : gb233 ≠ gb234))
     have NB234_233 := Aside0.mk ((by rw [hg]; exact Nat.ne_of_gt (blk_lt BK233.out) : gb234 ≠ gb233))
     replace HO198 := Aside0.mk (Kd.V_below (Kd.V_elderB HO198.out gb234 (Nat.le_of_eq hg.symm)) hb)
     replace HO203 := Aside0.mk (Kd.V_below (Kd.V_elderB HO203.out gb234 (Nat.le_of_eq hg.symm)) hb)
     replace HO214 := Aside0.mk (Kd.V_below (Kd.V_elderB HO214.out gb234 (Nat.le_of_eq hg.symm)) hb)
     replace HO225 := Aside0.mk (Kd.V_below (Kd.V_elderB HO225.out gb234 (Nat.le_of_eq hg.symm)) hb)
     replace BK232 := Aside0.mk (blk_below BK232.out hb)
     replace BK233 := Aside0.mk (blk_below BK233.out hb)
     replace HB := Aside0.mk (below_step HB.out hb)
     clear hb hbox hg
     refine hK.out _ _ trivial (fun hHeld => ?_)
     clear hK K
     refine norm_ (a' := ?_) ?_ ?_
     rotate_left
     · show Act.put _ (some 13) _ = _
       simp only [Act.put, sA_, sB_, sC_, i64_w, i32_w]
       rfl
     exact norm_ (by rfl) (hJ3_8_13_14_15 (gb232, gb233, gb234) _ ⟨Kd.V_mono HO198.out (fun _ hk => ⟨hk.1.1, ⟨hk.1.2, hk.2⟩⟩), Kd.V_mono HO203.out (fun _ hk => ⟨hk.1.1, ⟨hk.1.2, hk.2⟩⟩), Kd.V_mono HO214.out (fun _ hk => ⟨hk.1.1, ⟨hk.1.2, hk.2⟩⟩), Kd.V_mono HO225.out (fun _ hk => ⟨hk.1.1, ⟨hk.1.2, hk.2⟩⟩), BK232.out, BK233.out, BK234.out, GW232.out, GE232.out, NB233_232.out, NB232_233.out, NB234_232.out, NB232_234.out, GW233.out, GE233.out, NB234_233.out, NB233_234.out, GW234.out, GE234.out, HB.out⟩)
   intro hJ3_8_13_14
   refine join_ (σ := Nat × Nat) 5 (ra_ [12, 1, 1, 1, 1, 3]) (fun s_ => [(36, .agg #[.int .i64 t204, .int .i64 t205, .int .i64 t206, .int .i64 t207, .int .i64 t208, .int .i64 t209]), (41, .agg #[.int .i64 t215, .int .i64 t216, .int .i64 t217, .int .i64 t218, .int .i64 t219, .int .i64 t220]), (11, .pointer (some ⟨s_.1, 0, none⟩)), (13, .pointer (some ⟨s_.2, 0, none⟩))]) (fun s_ w' => (Kd.V k33 33 w' w.heap.size (fun k_ => k_ ≠ s_.1 ∧ k_ ≠ s_.2) (.slice Ao30 t196.length co30) t196) ∧ (Kd.V k33 33 w' w.heap.size (fun k_ => k_ ≠ s_.1 ∧ k_ ≠ s_.2) (.slice Ao30 y199.length co30) y199) ∧ (Kd.V k33 33 w' w.heap.size (fun k_ => k_ ≠ s_.1 ∧ k_ ≠ s_.2) (.slice A33 y210.length c33) y210) ∧ (Kd.V k33 33 w' w.heap.size (fun k_ => k_ ≠ s_.1 ∧ k_ ≠ s_.2) (.slice A34 y221.length c34) y221) ∧ (w'.heap[s_.1]? = some Z6_) ∧ (w'.heap[s_.2]? = some Z6_) ∧ (w.heap.size ≤ s_.1) ∧ (w.heap.size ≤ s_.1) ∧ (s_.2 ≠ s_.1) ∧ (s_.1 ≠ s_.2) ∧ (w.heap.size ≤ s_.2) ∧ (w.heap.size ≤ s_.2) ∧ (Below w.heap.size w w')) ?_ ?_
   rotate_left
   rotate_left
   · skip
     rintro ⟨gb232, gb234⟩ w39 ⟨h0_, h1_, h2_, h3_, h4_, h5_, h6_, h7_, h8_, h9_, h10_, h11_, h12_⟩
     have HO203 : Aside0 (Kd.V k33 33 w39 w.heap.size (fun k_ => k_ ≠ gb232 ∧ k_ ≠ gb234) (.slice Ao30 y199.length co30) y199) := ⟨h1_⟩
     have HO214 : Aside0 (Kd.V k33 33 w39 w.heap.size (fun k_ => k_ ≠ gb232 ∧ k_ ≠ gb234) (.slice A33 y210.length c33) y210) := ⟨h2_⟩
     have HO225 : Aside0 (Kd.V k33 33 w39 w.heap.size (fun k_ => k_ ≠ gb232 ∧ k_ ≠ gb234) (.slice A34 y221.length c34) y221) := ⟨h3_⟩
     have BK232 : Aside0 (w39.heap[gb232]? = some Z6_) := ⟨h4_⟩
     have BK234 : Aside0 (w39.heap[gb234]? = some Z6_) := ⟨h5_⟩
     have GW232 : Aside0 (w.heap.size ≤ gb232) := ⟨h6_⟩
     have GE232 : Aside0 (w.heap.size ≤ gb232) := ⟨h7_⟩
     have NB234_232 : Aside0 (gb234 ≠ gb232) := ⟨h8_⟩
     have NB232_234 : Aside0 (gb232 ≠ gb234) := ⟨h9_⟩
     have GW234 : Aside0 (w.heap.size ≤ gb234) := ⟨h10_⟩
     have GE234 : Aside0 (w.heap.size ≤ gb234) := ⟨h11_⟩
     replace HO198 : Aside0 (Kd.V k33 33 w39 w.heap.size (fun k_ => k_ ≠ gb232 ∧ k_ ≠ gb234) (.slice Ao30 t196.length co30) t196) := ⟨h0_⟩
     replace HB : Aside0 (Below w.heap.size w w39) := ⟨h12_⟩
     clear h0_ h1_ h2_ h3_ h4_ h5_ h6_ h7_ h8_ h9_ h10_ h11_ h12_
     have hHeld := trivial
     refine norm_ (a' := ?_) ?_ ?_
     rotate_left
     · simp only [putAll, Act.put, sA_, sB_, sC_]
       rfl
     refine two_ (i := 12) (j := 14) (Ni := some 45) (Nj := some 12) (ra_ [14, 1, 1, 3]) (ra_ [12, 1, 3, 3]) rfl rfl rfl rfl (two_of HT_.out (by kernel_rfl)) (by decide) (by decide) (fun K hK => ?_) (fun K hK => ?_)
     · skip
       refine goes_ Try.func29 (by kernel_rfl) rfl #[.slice A34 y221.length c34] (by rfl) rfl rfl (by (try simp only [List.map_toArray, List.map_cons, List.map_nil]); first | done | rfl | (simp only [List.length_drop, List.length_take]; rfl)) ?_
       with_reducible refine (agg_Of.calls k _ _ y221 t226 t227 t228 t229 t230 t231 _ ?side1 ?side2 A19.out).mono ?_
       (case side1 => repeat (first | exact (Kd.V_reads' HO225.out).2.2 | (with_reducible refine Kd.C_alloc ?_ _) | (with_reducible refine Kd.C_drewN ?_ _) | (with_reducible refine Kd.C_drew ?_)))
       (case side2 => exact (Kd.V_reads' HO225.out).2.1)
       rintro e w40 ⟨rfl, hb⟩
       refine ⟨_, rfl, ?_⟩
       replace HO198 := Aside0.mk (Kd.V_below HO198.out hb)
       replace HO203 := Aside0.mk (Kd.V_below HO203.out hb)
       replace HO214 := Aside0.mk (Kd.V_below HO214.out hb)
       replace HO225 := Aside0.mk (Kd.V_below HO225.out hb)
       replace BK232 := Aside0.mk (blk_below BK232.out hb)
       replace BK234 := Aside0.mk (blk_below BK234.out hb)
       replace HB := Aside0.mk (below_step HB.out hb)
       (try clear hb)
       (try clear hb2)
       (try clear hk)
       (try clear hi)
       refine hK.out _ _ trivial (fun hHeld => ?_)
       clear hK K
       refine norm_ (a' := ?_) ?_ ?_
       rotate_left
       · show Act.put _ (some 45) _ = _
         simp only [Act.put, sA_, sB_, sC_, i64_w, i32_w]
         rfl
       exact norm_ (by rfl) (hJ3_8_12_13_15 (gb232, gb234) _ ⟨HO198.out, HO203.out, HO214.out, HO225.out, BK232.out, BK234.out, GW232.out, GE232.out, NB234_232.out, NB232_234.out, GW234.out, GE234.out, HB.out⟩)
     skip
     refine box_step ?hg (N := 12) ?hd (cs := #[.int .i64 0, .int .i64 0, .int .i64 0, .int .i64 0, .int .i64 0, .int .i64 0]) (t := 50) ?hr ?_; (case hd => rfl); (case hg => rfl); (case hr => first | (go_simp; done) | (go_simp; rfl))
     intro gb233 hg w40 hbox hb
     have BK233 := Aside0.mk (hbox)
     have GW233 := Aside0.mk ((by rw [hg]; exact (below_size HB.out) : w.heap.size ≤ gb233))
     have GE233 := Aside0.mk ((by rw [hg]; exact (below_size HB.out) : w.heap.size ≤ gb233))
     have NB232_233 := Aside0.mk ((by rw [hg]; exact Nat.ne_of_lt (blk_lt BK232.out) : gb232 ≠ gb233))
     have NB233_232 := Aside0.mk ((by rw [hg]; exact Nat.ne_of_gt (blk_lt BK232.out) : gb233 ≠ gb232))
     have NB234_233 := Aside0.mk ((by rw [hg]; exact Nat.ne_of_lt (blk_lt BK234.out) : gb234 ≠ gb233))
     have NB233_234 := Aside0.mk ((by rw [hg]; exact Nat.ne_of_gt (blk_lt BK234.out) : gb233 ≠ gb234))
     replace HO198 := Aside0.mk (Kd.V_below (Kd.V_elderB HO198.out gb233 (Nat.le_of_eq hg.symm)) hb)
     replace HO203 := Aside0.mk (Kd.V_below (Kd.V_elderB HO203.out gb233 (Nat.le_of_eq hg.symm)) hb)
     replace HO214 := Aside0.mk (Kd.V_below (Kd.V_elderB HO214.out gb233 (Nat.le_of_eq hg.symm)) hb)
     replace HO225 := Aside0.mk (Kd.V_below (Kd.V_elderB HO225.out gb233 (Nat.le_of_eq hg.symm)) hb)
     replace BK232 := Aside0.mk (blk_below BK232.out hb)
     replace BK234 := Aside0.mk (blk_below BK234.out hb)
     replace HB := Aside0.mk (below_step HB.out hb)
     clear hb hbox hg
     refine hK.out _ _ trivial (fun hHeld => ?_)
     clear hK K
     refine norm_ (a' := ?_) ?_ ?_
     rotate_left
     · show Act.put _ (some 12) _ = _
       simp only [Act.put, sA_, sB_, sC_, i64_w, i32_w]
       rfl
     exact norm_ (by rfl) (hJ3_8_13_14_15 (gb232, gb233, gb234) _ ⟨Kd.V_mono HO198.out (fun _ hk => ⟨hk.1.1, ⟨hk.2, hk.1.2⟩⟩), Kd.V_mono HO203.out (fun _ hk => ⟨hk.1.1, ⟨hk.2, hk.1.2⟩⟩), Kd.V_mono HO214.out (fun _ hk => ⟨hk.1.1, ⟨hk.2, hk.1.2⟩⟩), Kd.V_mono HO225.out (fun _ hk => ⟨hk.1.1, ⟨hk.2, hk.1.2⟩⟩), BK232.out, BK233.out, BK234.out, GW232.out, GE232.out, NB233_232.out, NB232_233.out, NB234_232.out, NB232_234.out, GW233.out, GE233.out, NB234_233.out, NB233_234.out, GW234.out, GE234.out, HB.out⟩)
   intro hJ3_8_13_15
   refine join_ (σ := Nat × Nat) 5 (ra_ [12, 2, 2, 3]) (fun s_ => [(36, .agg #[.int .i64 t204, .int .i64 t205, .int .i64 t206, .int .i64 t207, .int .i64 t208, .int .i64 t209]), (41, .agg #[.int .i64 t215, .int .i64 t216, .int .i64 t217, .int .i64 t218, .int .i64 t219, .int .i64 t220]), (12, .pointer (some ⟨s_.1, 0, none⟩)), (13, .pointer (some ⟨s_.2, 0, none⟩))]) (fun s_ w' => (Kd.V k33 33 w' w.heap.size (fun k_ => k_ ≠ s_.1 ∧ k_ ≠ s_.2) (.slice Ao30 t196.length co30) t196) ∧ (Kd.V k33 33 w' w.heap.size (fun k_ => k_ ≠ s_.1 ∧ k_ ≠ s_.2) (.slice Ao30 y199.length co30) y199) ∧ (Kd.V k33 33 w' w.heap.size (fun k_ => k_ ≠ s_.1 ∧ k_ ≠ s_.2) (.slice A33 y210.length c33) y210) ∧ (Kd.V k33 33 w' w.heap.size (fun k_ => k_ ≠ s_.1 ∧ k_ ≠ s_.2) (.slice A34 y221.length c34) y221) ∧ (w'.heap[s_.1]? = some Z6_) ∧ (w'.heap[s_.2]? = some Z6_) ∧ (w.heap.size ≤ s_.1) ∧ (w.heap.size ≤ s_.1) ∧ (s_.2 ≠ s_.1) ∧ (s_.1 ≠ s_.2) ∧ (w.heap.size ≤ s_.2) ∧ (w.heap.size ≤ s_.2) ∧ (Below w.heap.size w w')) ?_ ?_
   rotate_left
   rotate_left
   · skip
     rintro ⟨gb233, gb234⟩ w39 ⟨h0_, h1_, h2_, h3_, h4_, h5_, h6_, h7_, h8_, h9_, h10_, h11_, h12_⟩
     have HO203 : Aside0 (Kd.V k33 33 w39 w.heap.size (fun k_ => k_ ≠ gb233 ∧ k_ ≠ gb234) (.slice Ao30 y199.length co30) y199) := ⟨h1_⟩
     have HO214 : Aside0 (Kd.V k33 33 w39 w.heap.size (fun k_ => k_ ≠ gb233 ∧ k_ ≠ gb234) (.slice A33 y210.length c33) y210) := ⟨h2_⟩
     have HO225 : Aside0 (Kd.V k33 33 w39 w.heap.size (fun k_ => k_ ≠ gb233 ∧ k_ ≠ gb234) (.slice A34 y221.length c34) y221) := ⟨h3_⟩
     have BK233 : Aside0 (w39.heap[gb233]? = some Z6_) := ⟨h4_⟩
     have BK234 : Aside0 (w39.heap[gb234]? = some Z6_) := ⟨h5_⟩
     have GW233 : Aside0 (w.heap.size ≤ gb233) := ⟨h6_⟩
     have GE233 : Aside0 (w.heap.size ≤ gb233) := ⟨h7_⟩
     have NB234_233 : Aside0 (gb234 ≠ gb233) := ⟨h8_⟩
     have NB233_234 : Aside0 (gb233 ≠ gb234) := ⟨h9_⟩
     have GW234 : Aside0 (w.heap.size ≤ gb234) := ⟨h10_⟩
     have GE234 : Aside0 (w.heap.size ≤ gb234) := ⟨h11_⟩
     replace HO198 : Aside0 (Kd.V k33 33 w39 w.heap.size (fun k_ => k_ ≠ gb233 ∧ k_ ≠ gb234) (.slice Ao30 t196.length co30) t196) := ⟨h0_⟩
     replace HB : Aside0 (Below w.heap.size w w39) := ⟨h12_⟩
     clear h0_ h1_ h2_ h3_ h4_ h5_ h6_ h7_ h8_ h9_ h10_ h11_ h12_
     have hHeld := trivial
     refine norm_ (a' := ?_) ?_ ?_
     rotate_left
     · simp only [putAll, Act.put, sA_, sB_, sC_]
       rfl
     refine two_ (i := 12) (j := 13) (Ni := some 45) (Nj := some 11) (ra_ [13, 1, 2, 3]) (ra_ [12, 1, 3, 3]) rfl rfl rfl rfl (two_of HT_.out (by kernel_rfl)) (by decide) (by decide) (fun K hK => ?_) (fun K hK => ?_)
     · skip
       refine goes_ Try.func29 (by kernel_rfl) rfl #[.slice A34 y221.length c34] (by rfl) rfl rfl (by (try simp only [List.map_toArray, List.map_cons, List.map_nil]); first | done | rfl | (simp only [List.length_drop, List.length_take]; rfl)) ?_
       with_reducible refine (agg_Of.calls k _ _ y221 t226 t227 t228 t229 t230 t231 _ ?side1 ?side2 A19.out).mono ?_
       (case side1 => repeat (first | exact (Kd.V_reads' HO225.out).2.2 | (with_reducible refine Kd.C_alloc ?_ _) | (with_reducible refine Kd.C_drewN ?_ _) | (with_reducible refine Kd.C_drew ?_)))
       (case side2 => exact (Kd.V_reads' HO225.out).2.1)
       rintro e w40 ⟨rfl, hb⟩
       refine ⟨_, rfl, ?_⟩
       replace HO198 := Aside0.mk (Kd.V_below HO198.out hb)
       replace HO203 := Aside0.mk (Kd.V_below HO203.out hb)
       replace HO214 := Aside0.mk (Kd.V_below HO214.out hb)
       replace HO225 := Aside0.mk (Kd.V_below HO225.out hb)
       replace BK233 := Aside0.mk (blk_below BK233.out hb)
       replace BK234 := Aside0.mk (blk_below BK234.out hb)
       replace HB := Aside0.mk (below_step HB.out hb)
       (try clear hb)
       (try clear hb2)
       (try clear hk)
       (try clear hi)
       refine hK.out _ _ trivial (fun hHeld => ?_)
       clear hK K
       refine norm_ (a' := ?_) ?_ ?_
       rotate_left
       · show Act.put _ (some 45) _ = _
         simp only [Act.put, sA_, sB_, sC_, i64_w, i32_w]
         rfl
       exact norm_ (by rfl) (hJ3_8_12_14_15 (gb233, gb234) _ ⟨HO198.out, HO203.out, HO214.out, HO225.out, BK233.out, BK234.out, GW233.out, GE233.out, NB234_233.out, NB233_234.out, GW234.out, GE234.out, HB.out⟩)
     skip
     refine box_step ?hg (N := 11) ?hd (cs := #[.int .i64 0, .int .i64 0, .int .i64 0, .int .i64 0, .int .i64 0, .int .i64 0]) (t := 50) ?hr ?_; (case hd => rfl); (case hg => rfl); (case hr => first | (go_simp; done) | (go_simp; rfl))
     intro gb232 hg w40 hbox hb
     have BK232 := Aside0.mk (hbox)
     have GW232 := Aside0.mk ((by rw [hg]; exact (below_size HB.out) : w.heap.size ≤ gb232))
     have GE232 := Aside0.mk ((by rw [hg]; exact (below_size HB.out) : w.heap.size ≤ gb232))
     have NB233_232 := Aside0.mk ((by rw [hg]; exact Nat.ne_of_lt (blk_lt BK233.out) : gb233 ≠ gb232))
     have NB232_233 := Aside0.mk ((by rw [hg]; exact Nat.ne_of_gt (blk_lt BK233.out) : gb232 ≠ gb233))
     have NB234_232 := Aside0.mk ((by rw [hg]; exact Nat.ne_of_lt (blk_lt BK234.out) : gb234 ≠ gb232))
     have NB232_234 := Aside0.mk ((by rw [hg]; exact Nat.ne_of_gt (blk_lt BK234.out) : gb232 ≠ gb234))
     replace HO198 := Aside0.mk (Kd.V_below (Kd.V_elderB HO198.out gb232 (Nat.le_of_eq hg.symm)) hb)
     replace HO203 := Aside0.mk (Kd.V_below (Kd.V_elderB HO203.out gb232 (Nat.le_of_eq hg.symm)) hb)
     replace HO214 := Aside0.mk (Kd.V_below (Kd.V_elderB HO214.out gb232 (Nat.le_of_eq hg.symm)) hb)
     replace HO225 := Aside0.mk (Kd.V_below (Kd.V_elderB HO225.out gb232 (Nat.le_of_eq hg.symm)) hb)
     replace BK233 := Aside0.mk (blk_below BK233.out hb)
     replace BK234 := Aside0.mk (blk_below BK234.out hb)
     replace HB := Aside0.mk (below_step HB.out hb)
     clear hb hbox hg
     refine hK.out _ _ trivial (fun hHeld => ?_)
     clear hK K
     refine norm_ (a' := ?_) ?_ ?_
     rotate_left
     · show Act.put _ (some 11) _ = _
       simp only [Act.put, sA_, sB_, sC_, i64_w, i32_w]
       rfl
     exact norm_ (by rfl) (hJ3_8_13_14_15 (gb232, gb233, gb234) _ ⟨Kd.V_mono HO198.out (fun _ hk => ⟨hk.2, ⟨hk.1.1, hk.1.2⟩⟩), Kd.V_mono HO203.out (fun _ hk => ⟨hk.2, ⟨hk.1.1, hk.1.2⟩⟩), Kd.V_mono HO214.out (fun _ hk => ⟨hk.2, ⟨hk.1.1, hk.1.2⟩⟩), Kd.V_mono HO225.out (fun _ hk => ⟨hk.2, ⟨hk.1.1, hk.1.2⟩⟩), BK232.out, BK233.out, BK234.out, GW232.out, GE232.out, NB233_232.out, NB232_233.out, NB234_232.out, NB232_234.out, GW233.out, GE233.out, NB234_233.out, NB233_234.out, GW234.out, GE234.out, HB.out⟩)
   intro hJ3_8_14_15
   refine join_ (σ := Nat × Nat × Nat) 5 (ra_ [8, 1, 3, 1, 3, 3]) (fun s_ => [(36, .agg #[.int .i64 t204, .int .i64 t205, .int .i64 t206, .int .i64 t207, .int .i64 t208, .int .i64 t209]), (11, .pointer (some ⟨s_.1, 0, none⟩)), (12, .pointer (some ⟨s_.2.1, 0, none⟩)), (13, .pointer (some ⟨s_.2.2, 0, none⟩))]) (fun s_ w' => (Kd.V k33 33 w' w.heap.size (fun k_ => k_ ≠ s_.1 ∧ k_ ≠ s_.2.1 ∧ k_ ≠ s_.2.2) (.slice Ao30 t196.length co30) t196) ∧ (Kd.V k33 33 w' w.heap.size (fun k_ => k_ ≠ s_.1 ∧ k_ ≠ s_.2.1 ∧ k_ ≠ s_.2.2) (.slice Ao30 y199.length co30) y199) ∧ (Kd.V k33 33 w' w.heap.size (fun k_ => k_ ≠ s_.1 ∧ k_ ≠ s_.2.1 ∧ k_ ≠ s_.2.2) (.slice A33 y210.length c33) y210) ∧ (Kd.V k33 33 w' w.heap.size (fun k_ => k_ ≠ s_.1 ∧ k_ ≠ s_.2.1 ∧ k_ ≠ s_.2.2) (.slice A34 y221.length c34) y221) ∧ (w'.heap[s_.1]? = some Z6_) ∧ (w'.heap[s_.2.1]? = some Z6_) ∧ (w'.heap[s_.2.2]? = some Z6_) ∧ (w.heap.size ≤ s_.1) ∧ (w.heap.size ≤ s_.1) ∧ (s_.2.1 ≠ s_.1) ∧ (s_.1 ≠ s_.2.1) ∧ (s_.2.2 ≠ s_.1) ∧ (s_.1 ≠ s_.2.2) ∧ (w.heap.size ≤ s_.2.1) ∧ (w.heap.size ≤ s_.2.1) ∧ (s_.2.2 ≠ s_.2.1) ∧ (s_.2.1 ≠ s_.2.2) ∧ (w.heap.size ≤ s_.2.2) ∧ (w.heap.size ≤ s_.2.2) ∧ (Below w.heap.size w w')) ?_ ?_
   rotate_left
   rotate_left
   · skip
     rintro ⟨gb232, gb233, gb234⟩ w39 ⟨h0_, h1_, h2_, h3_, h4_, h5_, h6_, h7_, h8_, h9_, h10_, h11_, h12_, h13_, h14_, h15_, h16_, h17_, h18_, h19_⟩
     have HO203 : Aside0 (Kd.V k33 33 w39 w.heap.size (fun k_ => k_ ≠ gb232 ∧ k_ ≠ gb233 ∧ k_ ≠ gb234) (.slice Ao30 y199.length co30) y199) := ⟨h1_⟩
     have HO214 : Aside0 (Kd.V k33 33 w39 w.heap.size (fun k_ => k_ ≠ gb232 ∧ k_ ≠ gb233 ∧ k_ ≠ gb234) (.slice A33 y210.length c33) y210) := ⟨h2_⟩
     have HO225 : Aside0 (Kd.V k33 33 w39 w.heap.size (fun k_ => k_ ≠ gb232 ∧ k_ ≠ gb233 ∧ k_ ≠ gb234) (.slice A34 y221.length c34) y221) := ⟨h3_⟩
     have BK232 : Aside0 (w39.heap[gb232]? = some Z6_) := ⟨h4_⟩
     have BK233 : Aside0 (w39.heap[gb233]? = some Z6_) := ⟨h5_⟩
     have BK234 : Aside0 (w39.heap[gb234]? = some Z6_) := ⟨h6_⟩
     have GW232 : Aside0 (w.heap.size ≤ gb232) := ⟨h7_⟩
     have GE232 : Aside0 (w.heap.size ≤ gb232) := ⟨h8_⟩
     have NB233_232 : Aside0 (gb233 ≠ gb232) := ⟨h9_⟩
     have NB232_233 : Aside0 (gb232 ≠ gb233) := ⟨h10_⟩
     have NB234_232 : Aside0 (gb234 ≠ gb232) := ⟨h11_⟩
     have NB232_234 : Aside0 (gb232 ≠ gb234) := ⟨h12_⟩
     have GW233 : Aside0 (w.heap.size ≤ gb233) := ⟨h13_⟩
     have GE233 : Aside0 (w.heap.size ≤ gb233) := ⟨h14_⟩
     have NB234_233 : Aside0 (gb234 ≠ gb233) := ⟨h15_⟩
     have NB233_234 : Aside0 (gb233 ≠ gb234) := ⟨h16_⟩
     have GW234 : Aside0 (w.heap.size ≤ gb234) := ⟨h17_⟩
     have GE234 : Aside0 (w.heap.size ≤ gb234) := ⟨h18_⟩
     replace HO198 : Aside0 (Kd.V k33 33 w39 w.heap.size (fun k_ => k_ ≠ gb232 ∧ k_ ≠ gb233 ∧ k_ ≠ gb234) (.slice Ao30 t196.length co30) t196) := ⟨h0_⟩
     replace HB : Aside0 (Below w.heap.size w w39) := ⟨h19_⟩
     clear h0_ h1_ h2_ h3_ h4_ h5_ h6_ h7_ h8_ h9_ h10_ h11_ h12_ h13_ h14_ h15_ h16_ h17_ h18_ h19_
     have hHeld := trivial
     refine norm_ (a' := ?_) ?_ ?_
     rotate_left
     · simp only [putAll, Act.put, sA_, sB_, sC_]
       rfl
     refine one_ (i := 8) (N := some 41) (ra_ [12, 1, 3, 3]) rfl rfl (one_of HT_.out (by kernel_rfl)) (by decide) (fun K hK => ?_)
     refine goes_ Try.func29 (by kernel_rfl) rfl #[.slice A33 y210.length c33] (by rfl) rfl rfl (by (try simp only [List.map_toArray, List.map_cons, List.map_nil]); first | done | rfl | (simp only [List.length_drop, List.length_take]; rfl)) ?_
     with_reducible refine (agg_Of.calls k _ _ y210 t215 t216 t217 t218 t219 t220 _ ?side1 ?side2 A15.out).mono ?_
     (case side1 => repeat (first | exact (Kd.V_reads' HO214.out).2.2 | (with_reducible refine Kd.C_alloc ?_ _) | (with_reducible refine Kd.C_drewN ?_ _) | (with_reducible refine Kd.C_drew ?_)))
     (case side2 => exact (Kd.V_reads' HO214.out).2.1)
     rintro e w40 ⟨rfl, hb⟩
     refine ⟨_, rfl, ?_⟩
     replace HO198 := Aside0.mk (Kd.V_below HO198.out hb)
     replace HO203 := Aside0.mk (Kd.V_below HO203.out hb)
     replace HO214 := Aside0.mk (Kd.V_below HO214.out hb)
     replace HO225 := Aside0.mk (Kd.V_below HO225.out hb)
     replace BK232 := Aside0.mk (blk_below BK232.out hb)
     replace BK233 := Aside0.mk (blk_below BK233.out hb)
     replace BK234 := Aside0.mk (blk_below BK234.out hb)
     replace HB := Aside0.mk (below_step HB.out hb)
     (try clear hb)
     (try clear hb2)
     (try clear hk)
     (try clear hi)
     refine hK.out _ _ trivial (fun hHeld => ?_)
     clear hK K
     refine norm_ (a' := ?_) ?_ ?_
     rotate_left
     · show Act.put _ (some 41) _ = _
       simp only [Act.put, sA_, sB_, sC_, i64_w, i32_w]
       rfl
     exact norm_ (by rfl) (hJ3_8_13_14_15 (gb232, gb233, gb234) _ ⟨HO198.out, HO203.out, HO214.out, HO225.out, BK232.out, BK233.out, BK234.out, GW232.out, GE232.out, NB233_232.out, NB232_233.out, NB234_232.out, NB232_234.out, GW233.out, GE233.out, NB234_233.out, NB233_234.out, GW234.out, GE234.out, HB.out⟩)
   intro hJ3_13_14_15
   refine join_ (σ := Unit) 6 (ra_ [13, 6]) (fun s_ => [(36, .agg #[.int .i64 t204, .int .i64 t205, .int .i64 t206, .int .i64 t207, .int .i64 t208, .int .i64 t209]), (41, .agg #[.int .i64 t215, .int .i64 t216, .int .i64 t217, .int .i64 t218, .int .i64 t219, .int .i64 t220]), (45, .agg #[.int .i64 t226, .int .i64 t227, .int .i64 t228, .int .i64 t229, .int .i64 t230, .int .i64 t231])]) (fun s_ w' => (Kd.V k33 33 w' w.heap.size (fun _ => True) (.slice Ao30 t196.length co30) t196) ∧ (Kd.V k33 33 w' w.heap.size (fun _ => True) (.slice Ao30 y199.length co30) y199) ∧ (Kd.V k33 33 w' w.heap.size (fun _ => True) (.slice A33 y210.length c33) y210) ∧ (Kd.V k33 33 w' w.heap.size (fun _ => True) (.slice A34 y221.length c34) y221) ∧ (Below w.heap.size w w')) ?_ ?_
   rotate_left
   rotate_left
   · skip
     rintro _ w38 ⟨h0_, h1_, h2_, h3_, h4_⟩
     have HO203 : Aside0 (Kd.V k33 33 w38 w.heap.size (fun _ => True) (.slice Ao30 y199.length co30) y199) := ⟨h1_⟩
     have HO214 : Aside0 (Kd.V k33 33 w38 w.heap.size (fun _ => True) (.slice A33 y210.length c33) y210) := ⟨h2_⟩
     have HO225 : Aside0 (Kd.V k33 33 w38 w.heap.size (fun _ => True) (.slice A34 y221.length c34) y221) := ⟨h3_⟩
     replace HO198 : Aside0 (Kd.V k33 33 w38 w.heap.size (fun _ => True) (.slice Ao30 t196.length co30) t196) := ⟨h0_⟩
     replace HB : Aside0 (Below w.heap.size w w38) := ⟨h4_⟩
     clear h0_ h1_ h2_ h3_ h4_
     have hHeld := trivial
     refine norm_ (a' := ?_) ?_ ?_
     rotate_left
     · simp only [putAll, Act.put, sA_, sB_, sC_]
       rfl
     refine three_ (i := 13) (j := 14) (k := 15) (Ni := some 11) (Nj := some 12) (Nk := some 13) (ra_ [14, 5]) (ra_ [13, 1, 1, 4]) (ra_ [13, 2, 1, 3]) rfl rfl rfl rfl rfl rfl (three_of HT_.out (by kernel_rfl)) (by decide) (by decide) (by decide) (fun K hK => ?_) (fun K hK => ?_) (fun K hK => ?_)
     · skip
       refine box_step ?hg (N := 11) ?hd (cs := #[.int .i64 0, .int .i64 0, .int .i64 0, .int .i64 0, .int .i64 0, .int .i64 0]) (t := 50) ?hr ?_; (case hd => rfl); (case hg => rfl); (case hr => first | (go_simp; done) | (go_simp; rfl))
       intro gb232 hg w39 hbox hb
       have BK232 := Aside0.mk (hbox)
       have GW232 := Aside0.mk ((by rw [hg]; exact (below_size HB.out) : w.heap.size ≤ gb232))
       have GE232 := Aside0.mk ((by rw [hg]; exact (below_size HB.out) : w.heap.size ≤ gb232))
       replace HO198 := Aside0.mk (Kd.V_below (Kd.V_elderB HO198.out gb232 (Nat.le_of_eq hg.symm)) hb)
       replace HO203 := Aside0.mk (Kd.V_below (Kd.V_elderB HO203.out gb232 (Nat.le_of_eq hg.symm)) hb)
       replace HO214 := Aside0.mk (Kd.V_below (Kd.V_elderB HO214.out gb232 (Nat.le_of_eq hg.symm)) hb)
       replace HO225 := Aside0.mk (Kd.V_below (Kd.V_elderB HO225.out gb232 (Nat.le_of_eq hg.symm)) hb)
       replace HB := Aside0.mk (below_step HB.out hb)
       clear hb hbox hg
       refine hK.out _ _ trivial (fun hHeld => ?_)
       clear hK K
       refine norm_ (a' := ?_) ?_ ?_
       rotate_left
       · show Act.put _ (some 11) _ = _
         simp only [Act.put, sA_, sB_, sC_, i64_w, i32_w]
         rfl
       exact norm_ (by rfl) (hJ3_8_12_13 (gb232) _ ⟨Kd.V_mono HO198.out (fun _ hk => hk.2), Kd.V_mono HO203.out (fun _ hk => hk.2), Kd.V_mono HO214.out (fun _ hk => hk.2), Kd.V_mono HO225.out (fun _ hk => hk.2), BK232.out, GW232.out, GE232.out, HB.out⟩)
     · skip
       refine box_step ?hg (N := 12) ?hd (cs := #[.int .i64 0, .int .i64 0, .int .i64 0, .int .i64 0, .int .i64 0, .int .i64 0]) (t := 50) ?hr ?_; (case hd => rfl); (case hg => rfl); (case hr => first | (go_simp; done) | (go_simp; rfl))
       intro gb233 hg w39 hbox hb
       have BK233 := Aside0.mk (hbox)
       have GW233 := Aside0.mk ((by rw [hg]; exact (below_size HB.out) : w.heap.size ≤ gb233))
       have GE233 := Aside0.mk ((by rw [hg]; exact (below_size HB.out) : w.heap.size ≤ gb233))
       replace HO198 := Aside0.mk (Kd.V_below (Kd.V_elderB HO198.out gb233 (Nat.le_of_eq hg.symm)) hb)
       replace HO203 := Aside0.mk (Kd.V_below (Kd.V_elderB HO203.out gb233 (Nat.le_of_eq hg.symm)) hb)
       replace HO214 := Aside0.mk (Kd.V_below (Kd.V_elderB HO214.out gb233 (Nat.le_of_eq hg.symm)) hb)
       replace HO225 := Aside0.mk (Kd.V_below (Kd.V_elderB HO225.out gb233 (Nat.le_of_eq hg.symm)) hb)
       replace HB := Aside0.mk (below_step HB.out hb)
       clear hb hbox hg
       refine hK.out _ _ trivial (fun hHeld => ?_)
       clear hK K
       refine norm_ (a' := ?_) ?_ ?_
       rotate_left
       · show Act.put _ (some 12) _ = _
         simp only [Act.put, sA_, sB_, sC_, i64_w, i32_w]
         rfl
       exact norm_ (by rfl) (hJ3_8_12_14 (gb233) _ ⟨Kd.V_mono HO198.out (fun _ hk => hk.2), Kd.V_mono HO203.out (fun _ hk => hk.2), Kd.V_mono HO214.out (fun _ hk => hk.2), Kd.V_mono HO225.out (fun _ hk => hk.2), BK233.out, GW233.out, GE233.out, HB.out⟩)
     skip
     refine box_step ?hg (N := 13) ?hd (cs := #[.int .i64 0, .int .i64 0, .int .i64 0, .int .i64 0, .int .i64 0, .int .i64 0]) (t := 50) ?hr ?_; (case hd => rfl); (case hg => rfl); (case hr => first | (go_simp; done) | (go_simp; rfl))
     intro gb234 hg w39 hbox hb
     have BK234 := Aside0.mk (hbox)
     have GW234 := Aside0.mk ((by rw [hg]; exact (below_size HB.out) : w.heap.size ≤ gb234))
     have GE234 := Aside0.mk ((by rw [hg]; exact (below_size HB.out) : w.heap.size ≤ gb234))
     replace HO198 := Aside0.mk (Kd.V_below (Kd.V_elderB HO198.out gb234 (Nat.le_of_eq hg.symm)) hb)
     replace HO203 := Aside0.mk (Kd.V_below (Kd.V_elderB HO203.out gb234 (Nat.le_of_eq hg.symm)) hb)
     replace HO214 := Aside0.mk (Kd.V_below (Kd.V_elderB HO214.out gb234 (Nat.le_of_eq hg.symm)) hb)
     replace HO225 := Aside0.mk (Kd.V_below (Kd.V_elderB HO225.out gb234 (Nat.le_of_eq hg.symm)) hb)
     replace HB := Aside0.mk (below_step HB.out hb)
     clear hb hbox hg
     refine hK.out _ _ trivial (fun hHeld => ?_)
     clear hK K
     refine norm_ (a' := ?_) ?_ ?_
     rotate_left
     · show Act.put _ (some 13) _ = _
       simp only [Act.put, sA_, sB_, sC_, i64_w, i32_w]
       rfl
     exact norm_ (by rfl) (hJ3_8_12_15 (gb234) _ ⟨Kd.V_mono HO198.out (fun _ hk => hk.2), Kd.V_mono HO203.out (fun _ hk => hk.2), Kd.V_mono HO214.out (fun _ hk => hk.2), Kd.V_mono HO225.out (fun _ hk => hk.2), BK234.out, GW234.out, GE234.out, HB.out⟩)
   intro hJ3_8_12
   refine join_ (σ := Nat) 6 (ra_ [12, 1, 1, 5]) (fun s_ => [(36, .agg #[.int .i64 t204, .int .i64 t205, .int .i64 t206, .int .i64 t207, .int .i64 t208, .int .i64 t209]), (41, .agg #[.int .i64 t215, .int .i64 t216, .int .i64 t217, .int .i64 t218, .int .i64 t219, .int .i64 t220]), (11, .pointer (some ⟨s_, 0, none⟩))]) (fun s_ w' => (Kd.V k33 33 w' w.heap.size (fun k_ => k_ ≠ s_) (.slice Ao30 t196.length co30) t196) ∧ (Kd.V k33 33 w' w.heap.size (fun k_ => k_ ≠ s_) (.slice Ao30 y199.length co30) y199) ∧ (Kd.V k33 33 w' w.heap.size (fun k_ => k_ ≠ s_) (.slice A33 y210.length c33) y210) ∧ (Kd.V k33 33 w' w.heap.size (fun k_ => k_ ≠ s_) (.slice A34 y221.length c34) y221) ∧ (w'.heap[s_]? = some Z6_) ∧ (w.heap.size ≤ s_) ∧ (w.heap.size ≤ s_) ∧ (Below w.heap.size w w')) ?_ ?_
   rotate_left
   rotate_left
   · skip
     rintro gb232 w38 ⟨h0_, h1_, h2_, h3_, h4_, h5_, h6_, h7_⟩
     have HO203 : Aside0 (Kd.V k33 33 w38 w.heap.size (fun k_ => k_ ≠ gb232) (.slice Ao30 y199.length co30) y199) := ⟨h1_⟩
     have HO214 : Aside0 (Kd.V k33 33 w38 w.heap.size (fun k_ => k_ ≠ gb232) (.slice A33 y210.length c33) y210) := ⟨h2_⟩
     have HO225 : Aside0 (Kd.V k33 33 w38 w.heap.size (fun k_ => k_ ≠ gb232) (.slice A34 y221.length c34) y221) := ⟨h3_⟩
     have BK232 : Aside0 (w38.heap[gb232]? = some Z6_) := ⟨h4_⟩
     have GW232 : Aside0 (w.heap.size ≤ gb232) := ⟨h5_⟩
     have GE232 : Aside0 (w.heap.size ≤ gb232) := ⟨h6_⟩
     replace HO198 : Aside0 (Kd.V k33 33 w38 w.heap.size (fun k_ => k_ ≠ gb232) (.slice Ao30 t196.length co30) t196) := ⟨h0_⟩
     replace HB : Aside0 (Below w.heap.size w w38) := ⟨h7_⟩
     clear h0_ h1_ h2_ h3_ h4_ h5_ h6_ h7_
     have hHeld := trivial
     refine norm_ (a' := ?_) ?_ ?_
     rotate_left
     · simp only [putAll, Act.put, sA_, sB_, sC_]
       rfl
     refine three_ (i := 12) (j := 14) (k := 15) (Ni := some 45) (Nj := some 12) (Nk := some 13) (ra_ [14, 5]) (ra_ [12, 1, 2, 4]) (ra_ [12, 1, 1, 1, 1, 3]) rfl rfl rfl rfl rfl rfl (three_of HT_.out (by kernel_rfl)) (by decide) (by decide) (by decide) (fun K hK => ?_) (fun K hK => ?_) (fun K hK => ?_)
     · skip
       refine goes_ Try.func29 (by kernel_rfl) rfl #[.slice A34 y221.length c34] (by rfl) rfl rfl (by (try simp only [List.map_toArray, List.map_cons, List.map_nil]); first | done | rfl | (simp only [List.length_drop, List.length_take]; rfl)) ?_
       with_reducible refine (agg_Of.calls k _ _ y221 t226 t227 t228 t229 t230 t231 _ ?side1 ?side2 A19.out).mono ?_
       (case side1 => repeat (first | exact (Kd.V_reads' HO225.out).2.2 | (with_reducible refine Kd.C_alloc ?_ _) | (with_reducible refine Kd.C_drewN ?_ _) | (with_reducible refine Kd.C_drew ?_)))
       (case side2 => exact (Kd.V_reads' HO225.out).2.1)
       rintro e w39 ⟨rfl, hb⟩
       refine ⟨_, rfl, ?_⟩
       replace HO198 := Aside0.mk (Kd.V_below HO198.out hb)
       replace HO203 := Aside0.mk (Kd.V_below HO203.out hb)
       replace HO214 := Aside0.mk (Kd.V_below HO214.out hb)
       replace HO225 := Aside0.mk (Kd.V_below HO225.out hb)
       replace BK232 := Aside0.mk (blk_below BK232.out hb)
       replace HB := Aside0.mk (below_step HB.out hb)
       (try clear hb)
       (try clear hb2)
       (try clear hk)
       (try clear hi)
       refine hK.out _ _ trivial (fun hHeld => ?_)
       clear hK K
       refine norm_ (a' := ?_) ?_ ?_
       rotate_left
       · show Act.put _ (some 45) _ = _
         simp only [Act.put, sA_, sB_, sC_, i64_w, i32_w]
         rfl
       exact norm_ (by rfl) (hJ3_8_12_13 (gb232) _ ⟨HO198.out, HO203.out, HO214.out, HO225.out, BK232.out, GW232.out, GE232.out, HB.out⟩)
     · skip
       refine box_step ?hg (N := 12) ?hd (cs := #[.int .i64 0, .int .i64 0, .int .i64 0, .int .i64 0, .int .i64 0, .int .i64 0]) (t := 50) ?hr ?_; (case hd => rfl); (case hg => rfl); (case hr => first | (go_simp; done) | (go_simp; rfl))
       intro gb233 hg w39 hbox hb
       have BK233 := Aside0.mk (hbox)
       have GW233 := Aside0.mk ((by rw [hg]; exact (below_size HB.out) : w.heap.size ≤ gb233))
       have GE233 := Aside0.mk ((by rw [hg]; exact (below_size HB.out) : w.heap.size ≤ gb233))
       have NB232_233 := Aside0.mk ((by rw [hg]; exact Nat.ne_of_lt (blk_lt BK232.out) : gb232 ≠ gb233))
       have NB233_232 := Aside0.mk ((by rw [hg]; exact Nat.ne_of_gt (blk_lt BK232.out) : gb233 ≠ gb232))
       replace HO198 := Aside0.mk (Kd.V_below (Kd.V_elderB HO198.out gb233 (Nat.le_of_eq hg.symm)) hb)
       replace HO203 := Aside0.mk (Kd.V_below (Kd.V_elderB HO203.out gb233 (Nat.le_of_eq hg.symm)) hb)
       replace HO214 := Aside0.mk (Kd.V_below (Kd.V_elderB HO214.out gb233 (Nat.le_of_eq hg.symm)) hb)
       replace HO225 := Aside0.mk (Kd.V_below (Kd.V_elderB HO225.out gb233 (Nat.le_of_eq hg.symm)) hb)
       replace BK232 := Aside0.mk (blk_below BK232.out hb)
       replace HB := Aside0.mk (below_step HB.out hb)
       clear hb hbox hg
       refine hK.out _ _ trivial (fun hHeld => ?_)
       clear hK K
       refine norm_ (a' := ?_) ?_ ?_
       rotate_left
       · show Act.put _ (some 12) _ = _
         simp only [Act.put, sA_, sB_, sC_, i64_w, i32_w]
         rfl
       exact norm_ (by rfl) (hJ3_8_13_14 (gb232, gb233) _ ⟨HO198.out, HO203.out, HO214.out, HO225.out, BK232.out, BK233.out, GW232.out, GE232.out, NB233_232.out, NB232_233.out, GW233.out, GE233.out, HB.out⟩)
     skip
     refine box_step ?hg (N := 13) ?hd (cs := #[.int .i64 0, .int .i64 0, .int .i64 0, .int .i64 0, .int .i64 0, .int .i64 0]) (t := 50) ?hr ?_; (case hd => rfl); (case hg => rfl); (case hr => first | (go_simp; done) | (go_simp; rfl))
     intro gb234 hg w39 hbox hb
     have BK234 := Aside0.mk (hbox)
     have GW234 := Aside0.mk ((by rw [hg]; exact (below_size HB.out) : w.heap.size ≤ gb234))
     have GE234 := Aside0.mk ((by rw [hg]; exact (below_size HB.out) : w.heap.size ≤ gb234))
     have NB232_234 := Aside0.mk ((by rw [hg]; exact Nat.ne_of_lt (blk_lt BK232.out) : gb232 ≠ gb234))
     have NB234_232 := Aside0.mk ((by rw [hg]; exact Nat.ne_of_gt (blk_lt BK232.out) : gb234 ≠ gb232))
     replace HO198 := Aside0.mk (Kd.V_below (Kd.V_elderB HO198.out gb234 (Nat.le_of_eq hg.symm)) hb)
     replace HO203 := Aside0.mk (Kd.V_below (Kd.V_elderB HO203.out gb234 (Nat.le_of_eq hg.symm)) hb)
     replace HO214 := Aside0.mk (Kd.V_below (Kd.V_elderB HO214.out gb234 (Nat.le_of_eq hg.symm)) hb)
     replace HO225 := Aside0.mk (Kd.V_below (Kd.V_elderB HO225.out gb234 (Nat.le_of_eq hg.symm)) hb)
     replace BK232 := Aside0.mk (blk_below BK232.out hb)
     replace HB := Aside0.mk (below_step HB.out hb)
     clear hb hbox hg
     refine hK.out _ _ trivial (fun hHeld => ?_)
     clear hK K
     refine norm_ (a' := ?_) ?_ ?_
     rotate_left
     · show Act.put _ (some 13) _ = _
       simp only [Act.put, sA_, sB_, sC_, i64_w, i32_w]
       rfl
     exact norm_ (by rfl) (hJ3_8_13_15 (gb232, gb234) _ ⟨HO198.out, HO203.out, HO214.out, HO225.out, BK232.out, BK234.out, GW232.out, GE232.out, NB234_232.out, NB232_234.out, GW234.out, GE234.out, HB.out⟩)
   intro hJ3_8_13
   refine join_ (σ := Nat) 6 (ra_ [12, 2, 1, 4]) (fun s_ => [(36, .agg #[.int .i64 t204, .int .i64 t205, .int .i64 t206, .int .i64 t207, .int .i64 t208, .int .i64 t209]), (41, .agg #[.int .i64 t215, .int .i64 t216, .int .i64 t217, .int .i64 t218, .int .i64 t219, .int .i64 t220]), (12, .pointer (some ⟨s_, 0, none⟩))]) (fun s_ w' => (Kd.V k33 33 w' w.heap.size (fun k_ => k_ ≠ s_) (.slice Ao30 t196.length co30) t196) ∧ (Kd.V k33 33 w' w.heap.size (fun k_ => k_ ≠ s_) (.slice Ao30 y199.length co30) y199) ∧ (Kd.V k33 33 w' w.heap.size (fun k_ => k_ ≠ s_) (.slice A33 y210.length c33) y210) ∧ (Kd.V k33 33 w' w.heap.size (fun k_ => k_ ≠ s_) (.slice A34 y221.length c34) y221) ∧ (w'.heap[s_]? = some Z6_) ∧ (w.heap.size ≤ s_) ∧ (w.heap.size ≤ s_) ∧ (Below w.heap.size w w')) ?_ ?_
   rotate_left
   rotate_left
   · skip
     rintro gb233 w38 ⟨h0_, h1_, h2_, h3_, h4_, h5_, h6_, h7_⟩
     have HO203 : Aside0 (Kd.V k33 33 w38 w.heap.size (fun k_ => k_ ≠ gb233) (.slice Ao30 y199.length co30) y199) := ⟨h1_⟩
     have HO214 : Aside0 (Kd.V k33 33 w38 w.heap.size (fun k_ => k_ ≠ gb233) (.slice A33 y210.length c33) y210) := ⟨h2_⟩
     have HO225 : Aside0 (Kd.V k33 33 w38 w.heap.size (fun k_ => k_ ≠ gb233) (.slice A34 y221.length c34) y221) := ⟨h3_⟩
     have BK233 : Aside0 (w38.heap[gb233]? = some Z6_) := ⟨h4_⟩
     have GW233 : Aside0 (w.heap.size ≤ gb233) := ⟨h5_⟩
     have GE233 : Aside0 (w.heap.size ≤ gb233) := ⟨h6_⟩
     replace HO198 : Aside0 (Kd.V k33 33 w38 w.heap.size (fun k_ => k_ ≠ gb233) (.slice Ao30 t196.length co30) t196) := ⟨h0_⟩
     replace HB : Aside0 (Below w.heap.size w w38) := ⟨h7_⟩
     clear h0_ h1_ h2_ h3_ h4_ h5_ h6_ h7_
     have hHeld := trivial
     refine norm_ (a' := ?_) ?_ ?_
     rotate_left
     · simp only [putAll, Act.put, sA_, sB_, sC_]
       rfl
     refine three_ (i := 12) (j := 13) (k := 15) (Ni := some 45) (Nj := some 11) (Nk := some 13) (ra_ [13, 1, 1, 4]) (ra_ [12, 1, 2, 4]) (ra_ [12, 2, 2, 3]) rfl rfl rfl rfl rfl rfl (three_of HT_.out (by kernel_rfl)) (by decide) (by decide) (by decide) (fun K hK => ?_) (fun K hK => ?_) (fun K hK => ?_)
     · skip
       refine goes_ Try.func29 (by kernel_rfl) rfl #[.slice A34 y221.length c34] (by rfl) rfl rfl (by (try simp only [List.map_toArray, List.map_cons, List.map_nil]); first | done | rfl | (simp only [List.length_drop, List.length_take]; rfl)) ?_
       with_reducible refine (agg_Of.calls k _ _ y221 t226 t227 t228 t229 t230 t231 _ ?side1 ?side2 A19.out).mono ?_
       (case side1 => repeat (first | exact (Kd.V_reads' HO225.out).2.2 | (with_reducible refine Kd.C_alloc ?_ _) | (with_reducible refine Kd.C_drewN ?_ _) | (with_reducible refine Kd.C_drew ?_)))
       (case side2 => exact (Kd.V_reads' HO225.out).2.1)
       rintro e w39 ⟨rfl, hb⟩
       refine ⟨_, rfl, ?_⟩
       replace HO198 := Aside0.mk (Kd.V_below HO198.out hb)
       replace HO203 := Aside0.mk (Kd.V_below HO203.out hb)
       replace HO214 := Aside0.mk (Kd.V_below HO214.out hb)
       replace HO225 := Aside0.mk (Kd.V_below HO225.out hb)
       replace BK233 := Aside0.mk (blk_below BK233.out hb)
       replace HB := Aside0.mk (below_step HB.out hb)
       (try clear hb)
       (try clear hb2)
       (try clear hk)
       (try clear hi)
       refine hK.out _ _ trivial (fun hHeld => ?_)
       clear hK K
       refine norm_ (a' := ?_) ?_ ?_
       rotate_left
       · show Act.put _ (some 45) _ = _
         simp only [Act.put, sA_, sB_, sC_, i64_w, i32_w]
         rfl
       exact norm_ (by rfl) (hJ3_8_12_14 (gb233) _ ⟨HO198.out, HO203.out, HO214.out, HO225.out, BK233.out, GW233.out, GE233.out, HB.out⟩)
     · skip
       refine box_step ?hg (N := 11) ?hd (cs := #[.int .i64 0, .int .i64 0, .int .i64 0, .int .i64 0, .int .i64 0, .int .i64 0]) (t := 50) ?hr ?_; (case hd => rfl); (case hg => rfl); (case hr => first | (go_simp; done) | (go_simp; rfl))
       intro gb232 hg w39 hbox hb
       have BK232 := Aside0.mk (hbox)
       have GW232 := Aside0.mk ((by rw [hg]; exact (below_size HB.out) : w.heap.size ≤ gb232))
       have GE232 := Aside0.mk ((by rw [hg]; exact (below_size HB.out) : w.heap.size ≤ gb232))
       have NB233_232 := Aside0.mk ((by rw [hg]; exact Nat.ne_of_lt (blk_lt BK233.out) : gb233 ≠ gb232))
       have NB232_233 := Aside0.mk ((by rw [hg]; exact Nat.ne_of_gt (blk_lt BK233.out) : gb232 ≠ gb233))
       replace HO198 := Aside0.mk (Kd.V_below (Kd.V_elderB HO198.out gb232 (Nat.le_of_eq hg.symm)) hb)
       replace HO203 := Aside0.mk (Kd.V_below (Kd.V_elderB HO203.out gb232 (Nat.le_of_eq hg.symm)) hb)
       replace HO214 := Aside0.mk (Kd.V_below (Kd.V_elderB HO214.out gb232 (Nat.le_of_eq hg.symm)) hb)
       replace HO225 := Aside0.mk (Kd.V_below (Kd.V_elderB HO225.out gb232 (Nat.le_of_eq hg.symm)) hb)
       replace BK233 := Aside0.mk (blk_below BK233.out hb)
       replace HB := Aside0.mk (below_step HB.out hb)
       clear hb hbox hg
       refine hK.out _ _ trivial (fun hHeld => ?_)
       clear hK K
       refine norm_ (a' := ?_) ?_ ?_
       rotate_left
       · show Act.put _ (some 11) _ = _
         simp only [Act.put, sA_, sB_, sC_, i64_w, i32_w]
         rfl
       exact norm_ (by rfl) (hJ3_8_13_14 (gb232, gb233) _ ⟨Kd.V_mono HO198.out (fun _ hk => ⟨hk.2, hk.1⟩), Kd.V_mono HO203.out (fun _ hk => ⟨hk.2, hk.1⟩), Kd.V_mono HO214.out (fun _ hk => ⟨hk.2, hk.1⟩), Kd.V_mono HO225.out (fun _ hk => ⟨hk.2, hk.1⟩), BK232.out, BK233.out, GW232.out, GE232.out, NB233_232.out, NB232_233.out, GW233.out, GE233.out, HB.out⟩)
     skip
     refine box_step ?hg (N := 13) ?hd (cs := #[.int .i64 0, .int .i64 0, .int .i64 0, .int .i64 0, .int .i64 0, .int .i64 0]) (t := 50) ?hr ?_; (case hd => rfl); (case hg => rfl); (case hr => first | (go_simp; done) | (go_simp; rfl))
     intro gb234 hg w39 hbox hb
     have BK234 := Aside0.mk (hbox)
     have GW234 := Aside0.mk ((by rw [hg]; exact (below_size HB.out) : w.heap.size ≤ gb234))
     have GE234 := Aside0.mk ((by rw [hg]; exact (below_size HB.out) : w.heap.size ≤ gb234))
     have NB233_234 := Aside0.mk ((by rw [hg]; exact Nat.ne_of_lt (blk_lt BK233.out) : gb233 ≠ gb234))
     have NB234_233 := Aside0.mk ((by rw [hg]; exact Nat.ne_of_gt (blk_lt BK233.out) : gb234 ≠ gb233))
     replace HO198 := Aside0.mk (Kd.V_below (Kd.V_elderB HO198.out gb234 (Nat.le_of_eq hg.symm)) hb)
     replace HO203 := Aside0.mk (Kd.V_below (Kd.V_elderB HO203.out gb234 (Nat.le_of_eq hg.symm)) hb)
     replace HO214 := Aside0.mk (Kd.V_below (Kd.V_elderB HO214.out gb234 (Nat.le_of_eq hg.symm)) hb)
     replace HO225 := Aside0.mk (Kd.V_below (Kd.V_elderB HO225.out gb234 (Nat.le_of_eq hg.symm)) hb)
     replace BK233 := Aside0.mk (blk_below BK233.out hb)
     replace HB := Aside0.mk (below_step HB.out hb)
     clear hb hbox hg
     refine hK.out _ _ trivial (fun hHeld => ?_)
     clear hK K
     refine norm_ (a' := ?_) ?_ ?_
     rotate_left
     · show Act.put _ (some 13) _ = _
       simp only [Act.put, sA_, sB_, sC_, i64_w, i32_w]
       rfl
     exact norm_ (by rfl) (hJ3_8_14_15 (gb233, gb234) _ ⟨HO198.out, HO203.out, HO214.out, HO225.out, BK233.out, BK234.out, GW233.out, GE233.out, NB234_233.out, NB233_234.out, GW234.out, GE234.out, HB.out⟩)
   intro hJ3_8_14
   refine join_ (σ := Nat) 6 (ra_ [12, 3, 1, 3]) (fun s_ => [(36, .agg #[.int .i64 t204, .int .i64 t205, .int .i64 t206, .int .i64 t207, .int .i64 t208, .int .i64 t209]), (41, .agg #[.int .i64 t215, .int .i64 t216, .int .i64 t217, .int .i64 t218, .int .i64 t219, .int .i64 t220]), (13, .pointer (some ⟨s_, 0, none⟩))]) (fun s_ w' => (Kd.V k33 33 w' w.heap.size (fun k_ => k_ ≠ s_) (.slice Ao30 t196.length co30) t196) ∧ (Kd.V k33 33 w' w.heap.size (fun k_ => k_ ≠ s_) (.slice Ao30 y199.length co30) y199) ∧ (Kd.V k33 33 w' w.heap.size (fun k_ => k_ ≠ s_) (.slice A33 y210.length c33) y210) ∧ (Kd.V k33 33 w' w.heap.size (fun k_ => k_ ≠ s_) (.slice A34 y221.length c34) y221) ∧ (w'.heap[s_]? = some Z6_) ∧ (w.heap.size ≤ s_) ∧ (w.heap.size ≤ s_) ∧ (Below w.heap.size w w')) ?_ ?_
   rotate_left
   rotate_left
   · skip
     rintro gb234 w38 ⟨h0_, h1_, h2_, h3_, h4_, h5_, h6_, h7_⟩
     have HO203 : Aside0 (Kd.V k33 33 w38 w.heap.size (fun k_ => k_ ≠ gb234) (.slice Ao30 y199.length co30) y199) := ⟨h1_⟩
     have HO214 : Aside0 (Kd.V k33 33 w38 w.heap.size (fun k_ => k_ ≠ gb234) (.slice A33 y210.length c33) y210) := ⟨h2_⟩
     have HO225 : Aside0 (Kd.V k33 33 w38 w.heap.size (fun k_ => k_ ≠ gb234) (.slice A34 y221.length c34) y221) := ⟨h3_⟩
     have BK234 : Aside0 (w38.heap[gb234]? = some Z6_) := ⟨h4_⟩
     have GW234 : Aside0 (w.heap.size ≤ gb234) := ⟨h5_⟩
     have GE234 : Aside0 (w.heap.size ≤ gb234) := ⟨h6_⟩
     replace HO198 : Aside0 (Kd.V k33 33 w38 w.heap.size (fun k_ => k_ ≠ gb234) (.slice Ao30 t196.length co30) t196) := ⟨h0_⟩
     replace HB : Aside0 (Below w.heap.size w w38) := ⟨h7_⟩
     clear h0_ h1_ h2_ h3_ h4_ h5_ h6_ h7_
     have hHeld := trivial
     refine norm_ (a' := ?_) ?_ ?_
     rotate_left
     · simp only [putAll, Act.put, sA_, sB_, sC_]
       rfl
     refine three_ (i := 12) (j := 13) (k := 14) (Ni := some 45) (Nj := some 11) (Nk := some 12) (ra_ [13, 2, 1, 3]) (ra_ [12, 1, 1, 1, 1, 3]) (ra_ [12, 2, 2, 3]) rfl rfl rfl rfl rfl rfl (three_of HT_.out (by kernel_rfl)) (by decide) (by decide) (by decide) (fun K hK => ?_) (fun K hK => ?_) (fun K hK => ?_)
     · skip
       refine goes_ Try.func29 (by kernel_rfl) rfl #[.slice A34 y221.length c34] (by rfl) rfl rfl (by (try simp only [List.map_toArray, List.map_cons, List.map_nil]); first | done | rfl | (simp only [List.length_drop, List.length_take]; rfl)) ?_
       with_reducible refine (agg_Of.calls k _ _ y221 t226 t227 t228 t229 t230 t231 _ ?side1 ?side2 A19.out).mono ?_
       (case side1 => repeat (first | exact (Kd.V_reads' HO225.out).2.2 | (with_reducible refine Kd.C_alloc ?_ _) | (with_reducible refine Kd.C_drewN ?_ _) | (with_reducible refine Kd.C_drew ?_)))
       (case side2 => exact (Kd.V_reads' HO225.out).2.1)
       rintro e w39 ⟨rfl, hb⟩
       refine ⟨_, rfl, ?_⟩
       replace HO198 := Aside0.mk (Kd.V_below HO198.out hb)
       replace HO203 := Aside0.mk (Kd.V_below HO203.out hb)
       replace HO214 := Aside0.mk (Kd.V_below HO214.out hb)
       replace HO225 := Aside0.mk (Kd.V_below HO225.out hb)
       replace BK234 := Aside0.mk (blk_below BK234.out hb)
       replace HB := Aside0.mk (below_step HB.out hb)
       (try clear hb)
       (try clear hb2)
       (try clear hk)
       (try clear hi)
       refine hK.out _ _ trivial (fun hHeld => ?_)
       clear hK K
       refine norm_ (a' := ?_) ?_ ?_
       rotate_left
       · show Act.put _ (some 45) _ = _
         simp only [Act.put, sA_, sB_, sC_, i64_w, i32_w]
         rfl
       exact norm_ (by rfl) (hJ3_8_12_15 (gb234) _ ⟨HO198.out, HO203.out, HO214.out, HO225.out, BK234.out, GW234.out, GE234.out, HB.out⟩)
     · skip
       refine box_step ?hg (N := 11) ?hd (cs := #[.int .i64 0, .int .i64 0, .int .i64 0, .int .i64 0, .int .i64 0, .int .i64 0]) (t := 50) ?hr ?_; (case hd => rfl); (case hg => rfl); (case hr => first | (go_simp; done) | (go_simp; rfl))
       intro gb232 hg w39 hbox hb
       have BK232 := Aside0.mk (hbox)
       have GW232 := Aside0.mk ((by rw [hg]; exact (below_size HB.out) : w.heap.size ≤ gb232))
       have GE232 := Aside0.mk ((by rw [hg]; exact (below_size HB.out) : w.heap.size ≤ gb232))
       have NB234_232 := Aside0.mk ((by rw [hg]; exact Nat.ne_of_lt (blk_lt BK234.out) : gb234 ≠ gb232))
       have NB232_234 := Aside0.mk ((by rw [hg]; exact Nat.ne_of_gt (blk_lt BK234.out) : gb232 ≠ gb234))
       replace HO198 := Aside0.mk (Kd.V_below (Kd.V_elderB HO198.out gb232 (Nat.le_of_eq hg.symm)) hb)
       replace HO203 := Aside0.mk (Kd.V_below (Kd.V_elderB HO203.out gb232 (Nat.le_of_eq hg.symm)) hb)
       replace HO214 := Aside0.mk (Kd.V_below (Kd.V_elderB HO214.out gb232 (Nat.le_of_eq hg.symm)) hb)
       replace HO225 := Aside0.mk (Kd.V_below (Kd.V_elderB HO225.out gb232 (Nat.le_of_eq hg.symm)) hb)
       replace BK234 := Aside0.mk (blk_below BK234.out hb)
       replace HB := Aside0.mk (below_step HB.out hb)
       clear hb hbox hg
       refine hK.out _ _ trivial (fun hHeld => ?_)
       clear hK K
       refine norm_ (a' := ?_) ?_ ?_
       rotate_left
       · show Act.put _ (some 11) _ = _
         simp only [Act.put, sA_, sB_, sC_, i64_w, i32_w]
         rfl
       exact norm_ (by rfl) (hJ3_8_13_15 (gb232, gb234) _ ⟨Kd.V_mono HO198.out (fun _ hk => ⟨hk.2, hk.1⟩), Kd.V_mono HO203.out (fun _ hk => ⟨hk.2, hk.1⟩), Kd.V_mono HO214.out (fun _ hk => ⟨hk.2, hk.1⟩), Kd.V_mono HO225.out (fun _ hk => ⟨hk.2, hk.1⟩), BK232.out, BK234.out, GW232.out, GE232.out, NB234_232.out, NB232_234.out, GW234.out, GE234.out, HB.out⟩)
     skip
     refine box_step ?hg (N := 12) ?hd (cs := #[.int .i64 0, .int .i64 0, .int .i64 0, .int .i64 0, .int .i64 0, .int .i64 0]) (t := 50) ?hr ?_; (case hd => rfl); (case hg => rfl); (case hr => first | (go_simp; done) | (go_simp; rfl))
     intro gb233 hg w39 hbox hb
     have BK233 := Aside0.mk (hbox)
     have GW233 := Aside0.mk ((by rw [hg]; exact (below_size HB.out) : w.heap.size ≤ gb233))
     have GE233 := Aside0.mk ((by rw [hg]; exact (below_size HB.out) : w.heap.size ≤ gb233))
     have NB234_233 := Aside0.mk ((by rw [hg]; exact Nat.ne_of_lt (blk_lt BK234.out) : gb234 ≠ gb233))
     have NB233_234 := Aside0.mk ((by rw [hg]; exact Nat.ne_of_gt (blk_lt BK234.out) : gb233 ≠ gb234))
     replace HO198 := Aside0.mk (Kd.V_below (Kd.V_elderB HO198.out gb233 (Nat.le_of_eq hg.symm)) hb)
     replace HO203 := Aside0.mk (Kd.V_below (Kd.V_elderB HO203.out gb233 (Nat.le_of_eq hg.symm)) hb)
     replace HO214 := Aside0.mk (Kd.V_below (Kd.V_elderB HO214.out gb233 (Nat.le_of_eq hg.symm)) hb)
     replace HO225 := Aside0.mk (Kd.V_below (Kd.V_elderB HO225.out gb233 (Nat.le_of_eq hg.symm)) hb)
     replace BK234 := Aside0.mk (blk_below BK234.out hb)
     replace HB := Aside0.mk (below_step HB.out hb)
     clear hb hbox hg
     refine hK.out _ _ trivial (fun hHeld => ?_)
     clear hK K
     refine norm_ (a' := ?_) ?_ ?_
     rotate_left
     · show Act.put _ (some 12) _ = _
       simp only [Act.put, sA_, sB_, sC_, i64_w, i32_w]
       rfl
     exact norm_ (by rfl) (hJ3_8_14_15 (gb233, gb234) _ ⟨Kd.V_mono HO198.out (fun _ hk => ⟨hk.2, hk.1⟩), Kd.V_mono HO203.out (fun _ hk => ⟨hk.2, hk.1⟩), Kd.V_mono HO214.out (fun _ hk => ⟨hk.2, hk.1⟩), Kd.V_mono HO225.out (fun _ hk => ⟨hk.2, hk.1⟩), BK233.out, BK234.out, GW233.out, GE233.out, NB234_233.out, NB233_234.out, GW234.out, GE234.out, HB.out⟩)
   intro hJ3_8_15
   refine join_ (σ := Nat × Nat) 6 (ra_ [8, 1, 3, 1, 2, 4]) (fun s_ => [(36, .agg #[.int .i64 t204, .int .i64 t205, .int .i64 t206, .int .i64 t207, .int .i64 t208, .int .i64 t209]), (11, .pointer (some ⟨s_.1, 0, none⟩)), (12, .pointer (some ⟨s_.2, 0, none⟩))]) (fun s_ w' => (Kd.V k33 33 w' w.heap.size (fun k_ => k_ ≠ s_.1 ∧ k_ ≠ s_.2) (.slice Ao30 t196.length co30) t196) ∧ (Kd.V k33 33 w' w.heap.size (fun k_ => k_ ≠ s_.1 ∧ k_ ≠ s_.2) (.slice Ao30 y199.length co30) y199) ∧ (Kd.V k33 33 w' w.heap.size (fun k_ => k_ ≠ s_.1 ∧ k_ ≠ s_.2) (.slice A33 y210.length c33) y210) ∧ (Kd.V k33 33 w' w.heap.size (fun k_ => k_ ≠ s_.1 ∧ k_ ≠ s_.2) (.slice A34 y221.length c34) y221) ∧ (w'.heap[s_.1]? = some Z6_) ∧ (w'.heap[s_.2]? = some Z6_) ∧ (w.heap.size ≤ s_.1) ∧ (w.heap.size ≤ s_.1) ∧ (s_.2 ≠ s_.1) ∧ (s_.1 ≠ s_.2) ∧ (w.heap.size ≤ s_.2) ∧ (w.heap.size ≤ s_.2) ∧ (Below w.heap.size w w')) ?_ ?_
   rotate_left
   rotate_left
   · skip
     rintro ⟨gb232, gb233⟩ w38 ⟨h0_, h1_, h2_, h3_, h4_, h5_, h6_, h7_, h8_, h9_, h10_, h11_, h12_⟩
     have HO203 : Aside0 (Kd.V k33 33 w38 w.heap.size (fun k_ => k_ ≠ gb232 ∧ k_ ≠ gb233) (.slice Ao30 y199.length co30) y199) := ⟨h1_⟩
     have HO214 : Aside0 (Kd.V k33 33 w38 w.heap.size (fun k_ => k_ ≠ gb232 ∧ k_ ≠ gb233) (.slice A33 y210.length c33) y210) := ⟨h2_⟩
     have HO225 : Aside0 (Kd.V k33 33 w38 w.heap.size (fun k_ => k_ ≠ gb232 ∧ k_ ≠ gb233) (.slice A34 y221.length c34) y221) := ⟨h3_⟩
     have BK232 : Aside0 (w38.heap[gb232]? = some Z6_) := ⟨h4_⟩
     have BK233 : Aside0 (w38.heap[gb233]? = some Z6_) := ⟨h5_⟩
     have GW232 : Aside0 (w.heap.size ≤ gb232) := ⟨h6_⟩
     have GE232 : Aside0 (w.heap.size ≤ gb232) := ⟨h7_⟩
     have NB233_232 : Aside0 (gb233 ≠ gb232) := ⟨h8_⟩
     have NB232_233 : Aside0 (gb232 ≠ gb233) := ⟨h9_⟩
     have GW233 : Aside0 (w.heap.size ≤ gb233) := ⟨h10_⟩
     have GE233 : Aside0 (w.heap.size ≤ gb233) := ⟨h11_⟩
     replace HO198 : Aside0 (Kd.V k33 33 w38 w.heap.size (fun k_ => k_ ≠ gb232 ∧ k_ ≠ gb233) (.slice Ao30 t196.length co30) t196) := ⟨h0_⟩
     replace HB : Aside0 (Below w.heap.size w w38) := ⟨h12_⟩
     clear h0_ h1_ h2_ h3_ h4_ h5_ h6_ h7_ h8_ h9_ h10_ h11_ h12_
     have hHeld := trivial
     refine norm_ (a' := ?_) ?_ ?_
     rotate_left
     · simp only [putAll, Act.put, sA_, sB_, sC_]
       rfl
     refine two_ (i := 8) (j := 15) (Ni := some 41) (Nj := some 13) (ra_ [12, 1, 2, 4]) (ra_ [8, 1, 3, 1, 3, 3]) rfl rfl rfl rfl (two_of HT_.out (by kernel_rfl)) (by decide) (by decide) (fun K hK => ?_) (fun K hK => ?_)
     · skip
       refine goes_ Try.func29 (by kernel_rfl) rfl #[.slice A33 y210.length c33] (by rfl) rfl rfl (by (try simp only [List.map_toArray, List.map_cons, List.map_nil]); first | done | rfl | (simp only [List.length_drop, List.length_take]; rfl)) ?_
       with_reducible refine (agg_Of.calls k _ _ y210 t215 t216 t217 t218 t219 t220 _ ?side1 ?side2 A15.out).mono ?_
       (case side1 => repeat (first | exact (Kd.V_reads' HO214.out).2.2 | (with_reducible refine Kd.C_alloc ?_ _) | (with_reducible refine Kd.C_drewN ?_ _) | (with_reducible refine Kd.C_drew ?_)))
       (case side2 => exact (Kd.V_reads' HO214.out).2.1)
       rintro e w39 ⟨rfl, hb⟩
       refine ⟨_, rfl, ?_⟩
       replace HO198 := Aside0.mk (Kd.V_below HO198.out hb)
       replace HO203 := Aside0.mk (Kd.V_below HO203.out hb)
       replace HO214 := Aside0.mk (Kd.V_below HO214.out hb)
       replace HO225 := Aside0.mk (Kd.V_below HO225.out hb)
       replace BK232 := Aside0.mk (blk_below BK232.out hb)
       replace BK233 := Aside0.mk (blk_below BK233.out hb)
       replace HB := Aside0.mk (below_step HB.out hb)
       (try clear hb)
       (try clear hb2)
       (try clear hk)
       (try clear hi)
       refine hK.out _ _ trivial (fun hHeld => ?_)
       clear hK K
       refine norm_ (a' := ?_) ?_ ?_
       rotate_left
       · show Act.put _ (some 41) _ = _
         simp only [Act.put, sA_, sB_, sC_, i64_w, i32_w]
         rfl
       exact norm_ (by rfl) (hJ3_8_13_14 (gb232, gb233) _ ⟨HO198.out, HO203.out, HO214.out, HO225.out, BK232.out, BK233.out, GW232.out, GE232.out, NB233_232.out, NB232_233.out, GW233.out, GE233.out, HB.out⟩)
     skip
     refine box_step ?hg (N := 13) ?hd (cs := #[.int .i64 0, .int .i64 0, .int .i64 0, .int .i64 0, .int .i64 0, .int .i64 0]) (t := 50) ?hr ?_; (case hd => rfl); (case hg => rfl); (case hr => first | (go_simp; done) | (go_simp; rfl))
     intro gb234 hg w39 hbox hb
     have BK234 := Aside0.mk (hbox)
     have GW234 := Aside0.mk ((by rw [hg]; exact (below_size HB.out) : w.heap.size ≤ gb234))
     have GE234 := Aside0.mk ((by rw [hg]; exact (below_size HB.out) : w.heap.size ≤ gb234))
     have NB232_234 := Aside0.mk ((by rw [hg]; exact Nat.ne_of_lt (blk_lt BK232.out) : gb232 ≠ gb234))
     have NB234_232 := Aside0.mk ((by rw [hg]; exact Nat.ne_of_gt (blk_lt BK232.out) : gb234 ≠ gb232))
     have NB233_234 := Aside0.mk ((by rw [hg]; exact Nat.ne_of_lt (blk_lt BK233.out) : gb233 ≠ gb234))
     have NB234_233 := Aside0.mk ((by rw [hg]; exact Nat.ne_of_gt (blk_lt BK233.out) : gb234 ≠ gb233))
     replace HO198 := Aside0.mk (Kd.V_below (Kd.V_elderB HO198.out gb234 (Nat.le_of_eq hg.symm)) hb)
     replace HO203 := Aside0.mk (Kd.V_below (Kd.V_elderB HO203.out gb234 (Nat.le_of_eq hg.symm)) hb)
     replace HO214 := Aside0.mk (Kd.V_below (Kd.V_elderB HO214.out gb234 (Nat.le_of_eq hg.symm)) hb)
     replace HO225 := Aside0.mk (Kd.V_below (Kd.V_elderB HO225.out gb234 (Nat.le_of_eq hg.symm)) hb)
     replace BK232 := Aside0.mk (blk_below BK232.out hb)
     replace BK233 := Aside0.mk (blk_below BK233.out hb)
     replace HB := Aside0.mk (below_step HB.out hb)
     clear hb hbox hg
     refine hK.out _ _ trivial (fun hHeld => ?_)
     clear hK K
     refine norm_ (a' := ?_) ?_ ?_
     rotate_left
     · show Act.put _ (some 13) _ = _
       simp only [Act.put, sA_, sB_, sC_, i64_w, i32_w]
       rfl
     exact norm_ (by rfl) (hJ3_13_14_15 (gb232, gb233, gb234) _ ⟨Kd.V_mono HO198.out (fun _ hk => ⟨hk.1.1, ⟨hk.1.2, hk.2⟩⟩), Kd.V_mono HO203.out (fun _ hk => ⟨hk.1.1, ⟨hk.1.2, hk.2⟩⟩), Kd.V_mono HO214.out (fun _ hk => ⟨hk.1.1, ⟨hk.1.2, hk.2⟩⟩), Kd.V_mono HO225.out (fun _ hk => ⟨hk.1.1, ⟨hk.1.2, hk.2⟩⟩), BK232.out, BK233.out, BK234.out, GW232.out, GE232.out, NB233_232.out, NB232_233.out, NB234_232.out, NB232_234.out, GW233.out, GE233.out, NB234_233.out, NB233_234.out, GW234.out, GE234.out, HB.out⟩)
   intro hJ3_13_14
   refine join_ (σ := Nat × Nat) 6 (ra_ [8, 1, 3, 1, 1, 1, 1, 3]) (fun s_ => [(36, .agg #[.int .i64 t204, .int .i64 t205, .int .i64 t206, .int .i64 t207, .int .i64 t208, .int .i64 t209]), (11, .pointer (some ⟨s_.1, 0, none⟩)), (13, .pointer (some ⟨s_.2, 0, none⟩))]) (fun s_ w' => (Kd.V k33 33 w' w.heap.size (fun k_ => k_ ≠ s_.1 ∧ k_ ≠ s_.2) (.slice Ao30 t196.length co30) t196) ∧ (Kd.V k33 33 w' w.heap.size (fun k_ => k_ ≠ s_.1 ∧ k_ ≠ s_.2) (.slice Ao30 y199.length co30) y199) ∧ (Kd.V k33 33 w' w.heap.size (fun k_ => k_ ≠ s_.1 ∧ k_ ≠ s_.2) (.slice A33 y210.length c33) y210) ∧ (Kd.V k33 33 w' w.heap.size (fun k_ => k_ ≠ s_.1 ∧ k_ ≠ s_.2) (.slice A34 y221.length c34) y221) ∧ (w'.heap[s_.1]? = some Z6_) ∧ (w'.heap[s_.2]? = some Z6_) ∧ (w.heap.size ≤ s_.1) ∧ (w.heap.size ≤ s_.1) ∧ (s_.2 ≠ s_.1) ∧ (s_.1 ≠ s_.2) ∧ (w.heap.size ≤ s_.2) ∧ (w.heap.size ≤ s_.2) ∧ (Below w.heap.size w w')) ?_ ?_
   rotate_left
   rotate_left
   · skip
     rintro ⟨gb232, gb234⟩ w38 ⟨h0_, h1_, h2_, h3_, h4_, h5_, h6_, h7_, h8_, h9_, h10_, h11_, h12_⟩
     have HO203 : Aside0 (Kd.V k33 33 w38 w.heap.size (fun k_ => k_ ≠ gb232 ∧ k_ ≠ gb234) (.slice Ao30 y199.length co30) y199) := ⟨h1_⟩
     have HO214 : Aside0 (Kd.V k33 33 w38 w.heap.size (fun k_ => k_ ≠ gb232 ∧ k_ ≠ gb234) (.slice A33 y210.length c33) y210) := ⟨h2_⟩
     have HO225 : Aside0 (Kd.V k33 33 w38 w.heap.size (fun k_ => k_ ≠ gb232 ∧ k_ ≠ gb234) (.slice A34 y221.length c34) y221) := ⟨h3_⟩
     have BK232 : Aside0 (w38.heap[gb232]? = some Z6_) := ⟨h4_⟩
     have BK234 : Aside0 (w38.heap[gb234]? = some Z6_) := ⟨h5_⟩
     have GW232 : Aside0 (w.heap.size ≤ gb232) := ⟨h6_⟩
     have GE232 : Aside0 (w.heap.size ≤ gb232) := ⟨h7_⟩
     have NB234_232 : Aside0 (gb234 ≠ gb232) := ⟨h8_⟩
     have NB232_234 : Aside0 (gb232 ≠ gb234) := ⟨h9_⟩
     have GW234 : Aside0 (w.heap.size ≤ gb234) := ⟨h10_⟩
     have GE234 : Aside0 (w.heap.size ≤ gb234) := ⟨h11_⟩
     replace HO198 : Aside0 (Kd.V k33 33 w38 w.heap.size (fun k_ => k_ ≠ gb232 ∧ k_ ≠ gb234) (.slice Ao30 t196.length co30) t196) := ⟨h0_⟩
     replace HB : Aside0 (Below w.heap.size w w38) := ⟨h12_⟩
     clear h0_ h1_ h2_ h3_ h4_ h5_ h6_ h7_ h8_ h9_ h10_ h11_ h12_
     have hHeld := trivial
     refine norm_ (a' := ?_) ?_ ?_
     rotate_left
     · simp only [putAll, Act.put, sA_, sB_, sC_]
       rfl
     refine two_ (i := 8) (j := 14) (Ni := some 41) (Nj := some 12) (ra_ [12, 1, 1, 1, 1, 3]) (ra_ [8, 1, 3, 1, 3, 3]) rfl rfl rfl rfl (two_of HT_.out (by kernel_rfl)) (by decide) (by decide) (fun K hK => ?_) (fun K hK => ?_)
     · skip
       refine goes_ Try.func29 (by kernel_rfl) rfl #[.slice A33 y210.length c33] (by rfl) rfl rfl (by (try simp only [List.map_toArray, List.map_cons, List.map_nil]); first | done | rfl | (simp only [List.length_drop, List.length_take]; rfl)) ?_
       with_reducible refine (agg_Of.calls k _ _ y210 t215 t216 t217 t218 t219 t220 _ ?side1 ?side2 A15.out).mono ?_
       (case side1 => repeat (first | exact (Kd.V_reads' HO214.out).2.2 | (with_reducible refine Kd.C_alloc ?_ _) | (with_reducible refine Kd.C_drewN ?_ _) | (with_reducible refine Kd.C_drew ?_)))
       (case side2 => exact (Kd.V_reads' HO214.out).2.1)
       rintro e w39 ⟨rfl, hb⟩
       refine ⟨_, rfl, ?_⟩
       replace HO198 := Aside0.mk (Kd.V_below HO198.out hb)
       replace HO203 := Aside0.mk (Kd.V_below HO203.out hb)
       replace HO214 := Aside0.mk (Kd.V_below HO214.out hb)
       replace HO225 := Aside0.mk (Kd.V_below HO225.out hb)
       replace BK232 := Aside0.mk (blk_below BK232.out hb)
       replace BK234 := Aside0.mk (blk_below BK234.out hb)
       replace HB := Aside0.mk (below_step HB.out hb)
       (try clear hb)
       (try clear hb2)
       (try clear hk)
       (try clear hi)
       refine hK.out _ _ trivial (fun hHeld => ?_)
       clear hK K
       refine norm_ (a' := ?_) ?_ ?_
       rotate_left
       · show Act.put _ (some 41) _ = _
         simp only [Act.put, sA_, sB_, sC_, i64_w, i32_w]
         rfl
       exact norm_ (by rfl) (hJ3_8_13_15 (gb232, gb234) _ ⟨HO198.out, HO203.out, HO214.out, HO225.out, BK232.out, BK234.out, GW232.out, GE232.out, NB234_232.out, NB232_234.out, GW234.out, GE234.out, HB.out⟩)
     skip
     refine box_step ?hg (N := 12) ?hd (cs := #[.int .i64 0, .int .i64 0, .int .i64 0, .int .i64 0, .int .i64 0, .int .i64 0]) (t := 50) ?hr ?_; (case hd => rfl); (case hg => rfl); (case hr => first | (go_simp; done) | (go_simp; rfl))
     intro gb233 hg w39 hbox hb
     have BK233 := Aside0.mk (hbox)
     have GW233 := Aside0.mk ((by rw [hg]; exact (below_size HB.out) : w.heap.size ≤ gb233))
     have GE233 := Aside0.mk ((by rw [hg]; exact (below_size HB.out) : w.heap.size ≤ gb233))
     have NB232_233 := Aside0.mk ((by rw [hg]; exact Nat.ne_of_lt (blk_lt BK232.out) : gb232 ≠ gb233))
     have NB233_232 := Aside0.mk ((by rw [hg]; exact Nat.ne_of_gt (blk_lt BK232.out) : gb233 ≠ gb232))
     have NB234_233 := Aside0.mk ((by rw [hg]; exact Nat.ne_of_lt (blk_lt BK234.out) : gb234 ≠ gb233))
     have NB233_234 := Aside0.mk ((by rw [hg]; exact Nat.ne_of_gt (blk_lt BK234.out) : gb233 ≠ gb234))
     replace HO198 := Aside0.mk (Kd.V_below (Kd.V_elderB HO198.out gb233 (Nat.le_of_eq hg.symm)) hb)
     replace HO203 := Aside0.mk (Kd.V_below (Kd.V_elderB HO203.out gb233 (Nat.le_of_eq hg.symm)) hb)
     replace HO214 := Aside0.mk (Kd.V_below (Kd.V_elderB HO214.out gb233 (Nat.le_of_eq hg.symm)) hb)
     replace HO225 := Aside0.mk (Kd.V_below (Kd.V_elderB HO225.out gb233 (Nat.le_of_eq hg.symm)) hb)
     replace BK232 := Aside0.mk (blk_below BK232.out hb)
     replace BK234 := Aside0.mk (blk_below BK234.out hb)
     replace HB := Aside0.mk (below_step HB.out hb)
     clear hb hbox hg
     refine hK.out _ _ trivial (fun hHeld => ?_)
     clear hK K
     refine norm_ (a' := ?_) ?_ ?_
     rotate_left
     · show Act.put _ (some 12) _ = _
       simp only [Act.put, sA_, sB_, sC_, i64_w, i32_w]
       rfl
     exact norm_ (by rfl) (hJ3_13_14_15 (gb232, gb233, gb234) _ ⟨Kd.V_mono HO198.out (fun _ hk => ⟨hk.1.1, ⟨hk.2, hk.1.2⟩⟩), Kd.V_mono HO203.out (fun _ hk => ⟨hk.1.1, ⟨hk.2, hk.1.2⟩⟩), Kd.V_mono HO214.out (fun _ hk => ⟨hk.1.1, ⟨hk.2, hk.1.2⟩⟩), Kd.V_mono HO225.out (fun _ hk => ⟨hk.1.1, ⟨hk.2, hk.1.2⟩⟩), BK232.out, BK233.out, BK234.out, GW232.out, GE232.out, NB233_232.out, NB232_233.out, NB234_232.out, NB232_234.out, GW233.out, GE233.out, NB234_233.out, NB233_234.out, GW234.out, GE234.out, HB.out⟩)
   intro hJ3_13_15
   refine join_ (σ := Nat × Nat) 6 (ra_ [8, 1, 3, 2, 2, 3]) (fun s_ => [(36, .agg #[.int .i64 t204, .int .i64 t205, .int .i64 t206, .int .i64 t207, .int .i64 t208, .int .i64 t209]), (12, .pointer (some ⟨s_.1, 0, none⟩)), (13, .pointer (some ⟨s_.2, 0, none⟩))]) (fun s_ w' => (Kd.V k33 33 w' w.heap.size (fun k_ => k_ ≠ s_.1 ∧ k_ ≠ s_.2) (.slice Ao30 t196.length co30) t196) ∧ (Kd.V k33 33 w' w.heap.size (fun k_ => k_ ≠ s_.1 ∧ k_ ≠ s_.2) (.slice Ao30 y199.length co30) y199) ∧ (Kd.V k33 33 w' w.heap.size (fun k_ => k_ ≠ s_.1 ∧ k_ ≠ s_.2) (.slice A33 y210.length c33) y210) ∧ (Kd.V k33 33 w' w.heap.size (fun k_ => k_ ≠ s_.1 ∧ k_ ≠ s_.2) (.slice A34 y221.length c34) y221) ∧ (w'.heap[s_.1]? = some Z6_) ∧ (w'.heap[s_.2]? = some Z6_) ∧ (w.heap.size ≤ s_.1) ∧ (w.heap.size ≤ s_.1) ∧ (s_.2 ≠ s_.1) ∧ (s_.1 ≠ s_.2) ∧ (w.heap.size ≤ s_.2) ∧ (w.heap.size ≤ s_.2) ∧ (Below w.heap.size w w')) ?_ ?_
   rotate_left
   rotate_left
   · skip
     rintro ⟨gb233, gb234⟩ w38 ⟨h0_, h1_, h2_, h3_, h4_, h5_, h6_, h7_, h8_, h9_, h10_, h11_, h12_⟩
     have HO203 : Aside0 (Kd.V k33 33 w38 w.heap.size (fun k_ => k_ ≠ gb233 ∧ k_ ≠ gb234) (.slice Ao30 y199.length co30) y199) := ⟨h1_⟩
     have HO214 : Aside0 (Kd.V k33 33 w38 w.heap.size (fun k_ => k_ ≠ gb233 ∧ k_ ≠ gb234) (.slice A33 y210.length c33) y210) := ⟨h2_⟩
     have HO225 : Aside0 (Kd.V k33 33 w38 w.heap.size (fun k_ => k_ ≠ gb233 ∧ k_ ≠ gb234) (.slice A34 y221.length c34) y221) := ⟨h3_⟩
     have BK233 : Aside0 (w38.heap[gb233]? = some Z6_) := ⟨h4_⟩
     have BK234 : Aside0 (w38.heap[gb234]? = some Z6_) := ⟨h5_⟩
     have GW233 : Aside0 (w.heap.size ≤ gb233) := ⟨h6_⟩
     have GE233 : Aside0 (w.heap.size ≤ gb233) := ⟨h7_⟩
     have NB234_233 : Aside0 (gb234 ≠ gb233) := ⟨h8_⟩
     have NB233_234 : Aside0 (gb233 ≠ gb234) := ⟨h9_⟩
     have GW234 : Aside0 (w.heap.size ≤ gb234) := ⟨h10_⟩
     have GE234 : Aside0 (w.heap.size ≤ gb234) := ⟨h11_⟩
     replace HO198 : Aside0 (Kd.V k33 33 w38 w.heap.size (fun k_ => k_ ≠ gb233 ∧ k_ ≠ gb234) (.slice Ao30 t196.length co30) t196) := ⟨h0_⟩
     replace HB : Aside0 (Below w.heap.size w w38) := ⟨h12_⟩
     clear h0_ h1_ h2_ h3_ h4_ h5_ h6_ h7_ h8_ h9_ h10_ h11_ h12_
     have hHeld := trivial
     refine norm_ (a' := ?_) ?_ ?_
     rotate_left
     · simp only [putAll, Act.put, sA_, sB_, sC_]
       rfl
     refine two_ (i := 8) (j := 13) (Ni := some 41) (Nj := some 11) (ra_ [12, 2, 2, 3]) (ra_ [8, 1, 3, 1, 3, 3]) rfl rfl rfl rfl (two_of HT_.out (by kernel_rfl)) (by decide) (by decide) (fun K hK => ?_) (fun K hK => ?_)
     · skip
       refine goes_ Try.func29 (by kernel_rfl) rfl #[.slice A33 y210.length c33] (by rfl) rfl rfl (by (try simp only [List.map_toArray, List.map_cons, List.map_nil]); first | done | rfl | (simp only [List.length_drop, List.length_take]; rfl)) ?_
       with_reducible refine (agg_Of.calls k _ _ y210 t215 t216 t217 t218 t219 t220 _ ?side1 ?side2 A15.out).mono ?_
       (case side1 => repeat (first | exact (Kd.V_reads' HO214.out).2.2 | (with_reducible refine Kd.C_alloc ?_ _) | (with_reducible refine Kd.C_drewN ?_ _) | (with_reducible refine Kd.C_drew ?_)))
       (case side2 => exact (Kd.V_reads' HO214.out).2.1)
       rintro e w39 ⟨rfl, hb⟩
       refine ⟨_, rfl, ?_⟩
       replace HO198 := Aside0.mk (Kd.V_below HO198.out hb)
       replace HO203 := Aside0.mk (Kd.V_below HO203.out hb)
       replace HO214 := Aside0.mk (Kd.V_below HO214.out hb)
       replace HO225 := Aside0.mk (Kd.V_below HO225.out hb)
       replace BK233 := Aside0.mk (blk_below BK233.out hb)
       replace BK234 := Aside0.mk (blk_below BK234.out hb)
       replace HB := Aside0.mk (below_step HB.out hb)
       (try clear hb)
       (try clear hb2)
       (try clear hk)
       (try clear hi)
       refine hK.out _ _ trivial (fun hHeld => ?_)
       clear hK K
       refine norm_ (a' := ?_) ?_ ?_
       rotate_left
       · show Act.put _ (some 41) _ = _
         simp only [Act.put, sA_, sB_, sC_, i64_w, i32_w]
         rfl
       exact norm_ (by rfl) (hJ3_8_14_15 (gb233, gb234) _ ⟨HO198.out, HO203.out, HO214.out, HO225.out, BK233.out, BK234.out, GW233.out, GE233.out, NB234_233.out, NB233_234.out, GW234.out, GE234.out, HB.out⟩)
     skip
     refine box_step ?hg (N := 11) ?hd (cs := #[.int .i64 0, .int .i64 0, .int .i64 0, .int .i64 0, .int .i64 0, .int .i64 0]) (t := 50) ?hr ?_; (case hd => rfl); (case hg => rfl); (case hr => first | (go_simp; done) | (go_simp; rfl))
     intro gb232 hg w39 hbox hb
     have BK232 := Aside0.mk (hbox)
     have GW232 := Aside0.mk ((by rw [hg]; exact (below_size HB.out) : w.heap.size ≤ gb232))
     have GE232 := Aside0.mk ((by rw [hg]; exact (below_size HB.out) : w.heap.size ≤ gb232))
     have NB233_232 := Aside0.mk ((by rw [hg]; exact Nat.ne_of_lt (blk_lt BK233.out) : gb233 ≠ gb232))
     have NB232_233 := Aside0.mk ((by rw [hg]; exact Nat.ne_of_gt (blk_lt BK233.out) : gb232 ≠ gb233))
     have NB234_232 := Aside0.mk ((by rw [hg]; exact Nat.ne_of_lt (blk_lt BK234.out) : gb234 ≠ gb232))
     have NB232_234 := Aside0.mk ((by rw [hg]; exact Nat.ne_of_gt (blk_lt BK234.out) : gb232 ≠ gb234))
     replace HO198 := Aside0.mk (Kd.V_below (Kd.V_elderB HO198.out gb232 (Nat.le_of_eq hg.symm)) hb)
     replace HO203 := Aside0.mk (Kd.V_below (Kd.V_elderB HO203.out gb232 (Nat.le_of_eq hg.symm)) hb)
     replace HO214 := Aside0.mk (Kd.V_below (Kd.V_elderB HO214.out gb232 (Nat.le_of_eq hg.symm)) hb)
     replace HO225 := Aside0.mk (Kd.V_below (Kd.V_elderB HO225.out gb232 (Nat.le_of_eq hg.symm)) hb)
     replace BK233 := Aside0.mk (blk_below BK233.out hb)
     replace BK234 := Aside0.mk (blk_below BK234.out hb)
     replace HB := Aside0.mk (below_step HB.out hb)
     clear hb hbox hg
     refine hK.out _ _ trivial (fun hHeld => ?_)
     clear hK K
     refine norm_ (a' := ?_) ?_ ?_
     rotate_left
     · show Act.put _ (some 11) _ = _
       simp only [Act.put, sA_, sB_, sC_, i64_w, i32_w]
       rfl
     exact norm_ (by rfl) (hJ3_13_14_15 (gb232, gb233, gb234) _ ⟨Kd.V_mono HO198.out (fun _ hk => ⟨hk.2, ⟨hk.1.1, hk.1.2⟩⟩), Kd.V_mono HO203.out (fun _ hk => ⟨hk.2, ⟨hk.1.1, hk.1.2⟩⟩), Kd.V_mono HO214.out (fun _ hk => ⟨hk.2, ⟨hk.1.1, hk.1.2⟩⟩), Kd.V_mono HO225.out (fun _ hk => ⟨hk.2, ⟨hk.1.1, hk.1.2⟩⟩), BK232.out, BK233.out, BK234.out, GW232.out, GE232.out, NB233_232.out, NB232_233.out, NB234_232.out, NB232_234.out, GW233.out, GE233.out, NB234_233.out, NB233_234.out, GW234.out, GE234.out, HB.out⟩)
   intro hJ3_14_15
   refine join_ (σ := Nat × Nat × Nat) 6 (ra_ [3, 1, 4, 1, 3, 1, 3, 3]) (fun s_ => [(11, .pointer (some ⟨s_.1, 0, none⟩)), (12, .pointer (some ⟨s_.2.1, 0, none⟩)), (13, .pointer (some ⟨s_.2.2, 0, none⟩))]) (fun s_ w' => (Kd.V k33 33 w' w.heap.size (fun k_ => k_ ≠ s_.1 ∧ k_ ≠ s_.2.1 ∧ k_ ≠ s_.2.2) (.slice Ao30 t196.length co30) t196) ∧ (Kd.V k33 33 w' w.heap.size (fun k_ => k_ ≠ s_.1 ∧ k_ ≠ s_.2.1 ∧ k_ ≠ s_.2.2) (.slice Ao30 y199.length co30) y199) ∧ (Kd.V k33 33 w' w.heap.size (fun k_ => k_ ≠ s_.1 ∧ k_ ≠ s_.2.1 ∧ k_ ≠ s_.2.2) (.slice A33 y210.length c33) y210) ∧ (Kd.V k33 33 w' w.heap.size (fun k_ => k_ ≠ s_.1 ∧ k_ ≠ s_.2.1 ∧ k_ ≠ s_.2.2) (.slice A34 y221.length c34) y221) ∧ (w'.heap[s_.1]? = some Z6_) ∧ (w'.heap[s_.2.1]? = some Z6_) ∧ (w'.heap[s_.2.2]? = some Z6_) ∧ (w.heap.size ≤ s_.1) ∧ (w.heap.size ≤ s_.1) ∧ (s_.2.1 ≠ s_.1) ∧ (s_.1 ≠ s_.2.1) ∧ (s_.2.2 ≠ s_.1) ∧ (s_.1 ≠ s_.2.2) ∧ (w.heap.size ≤ s_.2.1) ∧ (w.heap.size ≤ s_.2.1) ∧ (s_.2.2 ≠ s_.2.1) ∧ (s_.2.1 ≠ s_.2.2) ∧ (w.heap.size ≤ s_.2.2) ∧ (w.heap.size ≤ s_.2.2) ∧ (Below w.heap.size w w')) ?_ ?_
   rotate_left
   rotate_left
   · skip
     rintro ⟨gb232, gb233, gb234⟩ w38 ⟨h0_, h1_, h2_, h3_, h4_, h5_, h6_, h7_, h8_, h9_, h10_, h11_, h12_, h13_, h14_, h15_, h16_, h17_, h18_, h19_⟩
     have HO203 : Aside0 (Kd.V k33 33 w38 w.heap.size (fun k_ => k_ ≠ gb232 ∧ k_ ≠ gb233 ∧ k_ ≠ gb234) (.slice Ao30 y199.length co30) y199) := ⟨h1_⟩
     have HO214 : Aside0 (Kd.V k33 33 w38 w.heap.size (fun k_ => k_ ≠ gb232 ∧ k_ ≠ gb233 ∧ k_ ≠ gb234) (.slice A33 y210.length c33) y210) := ⟨h2_⟩
     have HO225 : Aside0 (Kd.V k33 33 w38 w.heap.size (fun k_ => k_ ≠ gb232 ∧ k_ ≠ gb233 ∧ k_ ≠ gb234) (.slice A34 y221.length c34) y221) := ⟨h3_⟩
     have BK232 : Aside0 (w38.heap[gb232]? = some Z6_) := ⟨h4_⟩
     have BK233 : Aside0 (w38.heap[gb233]? = some Z6_) := ⟨h5_⟩
     have BK234 : Aside0 (w38.heap[gb234]? = some Z6_) := ⟨h6_⟩
     have GW232 : Aside0 (w.heap.size ≤ gb232) := ⟨h7_⟩
     have GE232 : Aside0 (w.heap.size ≤ gb232) := ⟨h8_⟩
     have NB233_232 : Aside0 (gb233 ≠ gb232) := ⟨h9_⟩
     have NB232_233 : Aside0 (gb232 ≠ gb233) := ⟨h10_⟩
     have NB234_232 : Aside0 (gb234 ≠ gb232) := ⟨h11_⟩
     have NB232_234 : Aside0 (gb232 ≠ gb234) := ⟨h12_⟩
     have GW233 : Aside0 (w.heap.size ≤ gb233) := ⟨h13_⟩
     have GE233 : Aside0 (w.heap.size ≤ gb233) := ⟨h14_⟩
     have NB234_233 : Aside0 (gb234 ≠ gb233) := ⟨h15_⟩
     have NB233_234 : Aside0 (gb233 ≠ gb234) := ⟨h16_⟩
     have GW234 : Aside0 (w.heap.size ≤ gb234) := ⟨h17_⟩
     have GE234 : Aside0 (w.heap.size ≤ gb234) := ⟨h18_⟩
     replace HO198 : Aside0 (Kd.V k33 33 w38 w.heap.size (fun k_ => k_ ≠ gb232 ∧ k_ ≠ gb233 ∧ k_ ≠ gb234) (.slice Ao30 t196.length co30) t196) := ⟨h0_⟩
     replace HB : Aside0 (Below w.heap.size w w38) := ⟨h19_⟩
     clear h0_ h1_ h2_ h3_ h4_ h5_ h6_ h7_ h8_ h9_ h10_ h11_ h12_ h13_ h14_ h15_ h16_ h17_ h18_ h19_
     have hHeld := trivial
     refine norm_ (a' := ?_) ?_ ?_
     rotate_left
     · simp only [putAll, Act.put, sA_, sB_, sC_]
       rfl
     refine one_ (i := 3) (N := some 36) (ra_ [8, 1, 3, 1, 3, 3]) rfl rfl (one_of HT_.out (by kernel_rfl)) (by decide) (fun K hK => ?_)
     refine goes_ Try.func29 (by kernel_rfl) rfl #[.slice Ao30 y199.length co30] (by rfl) rfl rfl (by (try simp only [List.map_toArray, List.map_cons, List.map_nil]); first | done | rfl | (simp only [List.length_drop, List.length_take]; rfl)) ?_
     with_reducible refine (agg_Of.calls k _ _ y199 t204 t205 t206 t207 t208 t209 _ ?side1 ?side2 A11.out).mono ?_
     (case side1 => repeat (first | exact (Kd.V_reads' HO203.out).2.2 | (with_reducible refine Kd.C_alloc ?_ _) | (with_reducible refine Kd.C_drewN ?_ _) | (with_reducible refine Kd.C_drew ?_)))
     (case side2 => exact (Kd.V_reads' HO203.out).2.1)
     rintro e w39 ⟨rfl, hb⟩
     refine ⟨_, rfl, ?_⟩
     replace HO198 := Aside0.mk (Kd.V_below HO198.out hb)
     replace HO203 := Aside0.mk (Kd.V_below HO203.out hb)
     replace HO214 := Aside0.mk (Kd.V_below HO214.out hb)
     replace HO225 := Aside0.mk (Kd.V_below HO225.out hb)
     replace BK232 := Aside0.mk (blk_below BK232.out hb)
     replace BK233 := Aside0.mk (blk_below BK233.out hb)
     replace BK234 := Aside0.mk (blk_below BK234.out hb)
     replace HB := Aside0.mk (below_step HB.out hb)
     (try clear hb)
     (try clear hb2)
     (try clear hk)
     (try clear hi)
     refine hK.out _ _ trivial (fun hHeld => ?_)
     clear hK K
     refine norm_ (a' := ?_) ?_ ?_
     rotate_left
     · show Act.put _ (some 36) _ = _
       simp only [Act.put, sA_, sB_, sC_, i64_w, i32_w]
       rfl
     exact norm_ (by rfl) (hJ3_13_14_15 (gb232, gb233, gb234) _ ⟨HO198.out, HO203.out, HO214.out, HO225.out, BK232.out, BK233.out, BK234.out, GW232.out, GE232.out, NB233_232.out, NB232_233.out, NB234_232.out, NB232_234.out, GW233.out, GE233.out, NB234_233.out, NB233_234.out, GW234.out, GE234.out, HB.out⟩)
   intro hJ13_14_15
   refine join_ (σ := Unit) 7 (ra_ [12, 7]) (fun s_ => [(36, .agg #[.int .i64 t204, .int .i64 t205, .int .i64 t206, .int .i64 t207, .int .i64 t208, .int .i64 t209]), (41, .agg #[.int .i64 t215, .int .i64 t216, .int .i64 t217, .int .i64 t218, .int .i64 t219, .int .i64 t220])]) (fun s_ w' => (Kd.V k33 33 w' w.heap.size (fun _ => True) (.slice Ao30 t196.length co30) t196) ∧ (Kd.V k33 33 w' w.heap.size (fun _ => True) (.slice Ao30 y199.length co30) y199) ∧ (Kd.V k33 33 w' w.heap.size (fun _ => True) (.slice A33 y210.length c33) y210) ∧ (Kd.V k33 33 w' w.heap.size (fun _ => True) (.slice A34 y221.length c34) y221) ∧ (Below w.heap.size w w')) ?_ ?_
   rotate_left
   rotate_left
   · skip
     rintro _ w37 ⟨h0_, h1_, h2_, h3_, h4_⟩
     have HO203 : Aside0 (Kd.V k33 33 w37 w.heap.size (fun _ => True) (.slice Ao30 y199.length co30) y199) := ⟨h1_⟩
     have HO214 : Aside0 (Kd.V k33 33 w37 w.heap.size (fun _ => True) (.slice A33 y210.length c33) y210) := ⟨h2_⟩
     have HO225 : Aside0 (Kd.V k33 33 w37 w.heap.size (fun _ => True) (.slice A34 y221.length c34) y221) := ⟨h3_⟩
     replace HO198 : Aside0 (Kd.V k33 33 w37 w.heap.size (fun _ => True) (.slice Ao30 t196.length co30) t196) := ⟨h0_⟩
     replace HB : Aside0 (Below w.heap.size w w37) := ⟨h4_⟩
     clear h0_ h1_ h2_ h3_ h4_
     have hHeld := trivial
     refine norm_ (a' := ?_) ?_ ?_
     rotate_left
     · simp only [putAll, Act.put, sA_, sB_, sC_]
       rfl
     refine four_ (i := 12) (j := 13) (k := 14) (m := 15) (Ni := some 45) (Nj := some 11) (Nk := some 12) (Nm := some 13) (ra_ [13, 6]) (ra_ [12, 1, 1, 5]) (ra_ [12, 2, 1, 4]) (ra_ [12, 3, 1, 3]) rfl rfl rfl rfl rfl rfl rfl rfl (four_of HT_.out (by kernel_rfl)) (by decide) (by decide) (by decide) (by decide) (fun K hK => ?_) (fun K hK => ?_) (fun K hK => ?_) (fun K hK => ?_)
     · skip
       refine goes_ Try.func29 (by kernel_rfl) rfl #[.slice A34 y221.length c34] (by rfl) rfl rfl (by (try simp only [List.map_toArray, List.map_cons, List.map_nil]); first | done | rfl | (simp only [List.length_drop, List.length_take]; rfl)) ?_
       with_reducible refine (agg_Of.calls k _ _ y221 t226 t227 t228 t229 t230 t231 _ ?side1 ?side2 A19.out).mono ?_
       (case side1 => repeat (first | exact (Kd.V_reads' HO225.out).2.2 | (with_reducible refine Kd.C_alloc ?_ _) | (with_reducible refine Kd.C_drewN ?_ _) | (with_reducible refine Kd.C_drew ?_)))
       (case side2 => exact (Kd.V_reads' HO225.out).2.1)
       rintro e w38 ⟨rfl, hb⟩
       refine ⟨_, rfl, ?_⟩
       replace HO198 := Aside0.mk (Kd.V_below HO198.out hb)
       replace HO203 := Aside0.mk (Kd.V_below HO203.out hb)
       replace HO214 := Aside0.mk (Kd.V_below HO214.out hb)
       replace HO225 := Aside0.mk (Kd.V_below HO225.out hb)
       replace HB := Aside0.mk (below_step HB.out hb)
       (try clear hb)
       (try clear hb2)
       (try clear hk)
       (try clear hi)
       refine hK.out _ _ trivial (fun hHeld => ?_)
       clear hK K
       refine norm_ (a' := ?_) ?_ ?_
       rotate_left
       · show Act.put _ (some 45) _ = _
         simp only [Act.put, sA_, sB_, sC_, i64_w, i32_w]
         rfl
       exact norm_ (by rfl) (hJ3_8_12 () _ ⟨HO198.out, HO203.out, HO214.out, HO225.out, HB.out⟩)
     · skip
       refine box_step ?hg (N := 11) ?hd (cs := #[.int .i64 0, .int .i64 0, .int .i64 0, .int .i64 0, .int .i64 0, .int .i64 0]) (t := 50) ?hr ?_; (case hd => rfl); (case hg => rfl); (case hr => first | (go_simp; done) | (go_simp; rfl))
       intro gb232 hg w38 hbox hb
       have BK232 := Aside0.mk (hbox)
       have GW232 := Aside0.mk ((by rw [hg]; exact (below_size HB.out) : w.heap.size ≤ gb232))
       have GE232 := Aside0.mk ((by rw [hg]; exact (below_size HB.out) : w.heap.size ≤ gb232))
       replace HO198 := Aside0.mk (Kd.V_below (Kd.V_elderB HO198.out gb232 (Nat.le_of_eq hg.symm)) hb)
       replace HO203 := Aside0.mk (Kd.V_below (Kd.V_elderB HO203.out gb232 (Nat.le_of_eq hg.symm)) hb)
       replace HO214 := Aside0.mk (Kd.V_below (Kd.V_elderB HO214.out gb232 (Nat.le_of_eq hg.symm)) hb)
       replace HO225 := Aside0.mk (Kd.V_below (Kd.V_elderB HO225.out gb232 (Nat.le_of_eq hg.symm)) hb)
       replace HB := Aside0.mk (below_step HB.out hb)
       clear hb hbox hg
       refine hK.out _ _ trivial (fun hHeld => ?_)
       clear hK K
       refine norm_ (a' := ?_) ?_ ?_
       rotate_left
       · show Act.put _ (some 11) _ = _
         simp only [Act.put, sA_, sB_, sC_, i64_w, i32_w]
         rfl
       exact norm_ (by rfl) (hJ3_8_13 (gb232) _ ⟨Kd.V_mono HO198.out (fun _ hk => hk.2), Kd.V_mono HO203.out (fun _ hk => hk.2), Kd.V_mono HO214.out (fun _ hk => hk.2), Kd.V_mono HO225.out (fun _ hk => hk.2), BK232.out, GW232.out, GE232.out, HB.out⟩)
     · skip
       refine box_step ?hg (N := 12) ?hd (cs := #[.int .i64 0, .int .i64 0, .int .i64 0, .int .i64 0, .int .i64 0, .int .i64 0]) (t := 50) ?hr ?_; (case hd => rfl); (case hg => rfl); (case hr => first | (go_simp; done) | (go_simp; rfl))
       intro gb233 hg w38 hbox hb
       have BK233 := Aside0.mk (hbox)
       have GW233 := Aside0.mk ((by rw [hg]; exact (below_size HB.out) : w.heap.size ≤ gb233))
       have GE233 := Aside0.mk ((by rw [hg]; exact (below_size HB.out) : w.heap.size ≤ gb233))
       replace HO198 := Aside0.mk (Kd.V_below (Kd.V_elderB HO198.out gb233 (Nat.le_of_eq hg.symm)) hb)
       replace HO203 := Aside0.mk (Kd.V_below (Kd.V_elderB HO203.out gb233 (Nat.le_of_eq hg.symm)) hb)
       replace HO214 := Aside0.mk (Kd.V_below (Kd.V_elderB HO214.out gb233 (Nat.le_of_eq hg.symm)) hb)
       replace HO225 := Aside0.mk (Kd.V_below (Kd.V_elderB HO225.out gb233 (Nat.le_of_eq hg.symm)) hb)
       replace HB := Aside0.mk (below_step HB.out hb)
       clear hb hbox hg
       refine hK.out _ _ trivial (fun hHeld => ?_)
       clear hK K
       refine norm_ (a' := ?_) ?_ ?_
       rotate_left
       · show Act.put _ (some 12) _ = _
         simp only [Act.put, sA_, sB_, sC_, i64_w, i32_w]
         rfl
       exact norm_ (by rfl) (hJ3_8_14 (gb233) _ ⟨Kd.V_mono HO198.out (fun _ hk => hk.2), Kd.V_mono HO203.out (fun _ hk => hk.2), Kd.V_mono HO214.out (fun _ hk => hk.2), Kd.V_mono HO225.out (fun _ hk => hk.2), BK233.out, GW233.out, GE233.out, HB.out⟩)
     skip
     refine box_step ?hg (N := 13) ?hd (cs := #[.int .i64 0, .int .i64 0, .int .i64 0, .int .i64 0, .int .i64 0, .int .i64 0]) (t := 50) ?hr ?_; (case hd => rfl); (case hg => rfl); (case hr => first | (go_simp; done) | (go_simp; rfl))
     intro gb234 hg w38 hbox hb
     have BK234 := Aside0.mk (hbox)
     have GW234 := Aside0.mk ((by rw [hg]; exact (below_size HB.out) : w.heap.size ≤ gb234))
     have GE234 := Aside0.mk ((by rw [hg]; exact (below_size HB.out) : w.heap.size ≤ gb234))
     replace HO198 := Aside0.mk (Kd.V_below (Kd.V_elderB HO198.out gb234 (Nat.le_of_eq hg.symm)) hb)
     replace HO203 := Aside0.mk (Kd.V_below (Kd.V_elderB HO203.out gb234 (Nat.le_of_eq hg.symm)) hb)
     replace HO214 := Aside0.mk (Kd.V_below (Kd.V_elderB HO214.out gb234 (Nat.le_of_eq hg.symm)) hb)
     replace HO225 := Aside0.mk (Kd.V_below (Kd.V_elderB HO225.out gb234 (Nat.le_of_eq hg.symm)) hb)
     replace HB := Aside0.mk (below_step HB.out hb)
     clear hb hbox hg
     refine hK.out _ _ trivial (fun hHeld => ?_)
     clear hK K
     refine norm_ (a' := ?_) ?_ ?_
     rotate_left
     · show Act.put _ (some 13) _ = _
       simp only [Act.put, sA_, sB_, sC_, i64_w, i32_w]
       rfl
     exact norm_ (by rfl) (hJ3_8_15 (gb234) _ ⟨Kd.V_mono HO198.out (fun _ hk => hk.2), Kd.V_mono HO203.out (fun _ hk => hk.2), Kd.V_mono HO214.out (fun _ hk => hk.2), Kd.V_mono HO225.out (fun _ hk => hk.2), BK234.out, GW234.out, GE234.out, HB.out⟩)
   intro hJ3_8
   refine join_ (σ := Nat) 7 (ra_ [8, 1, 3, 1, 1, 5]) (fun s_ => [(36, .agg #[.int .i64 t204, .int .i64 t205, .int .i64 t206, .int .i64 t207, .int .i64 t208, .int .i64 t209]), (11, .pointer (some ⟨s_, 0, none⟩))]) (fun s_ w' => (Kd.V k33 33 w' w.heap.size (fun k_ => k_ ≠ s_) (.slice Ao30 t196.length co30) t196) ∧ (Kd.V k33 33 w' w.heap.size (fun k_ => k_ ≠ s_) (.slice Ao30 y199.length co30) y199) ∧ (Kd.V k33 33 w' w.heap.size (fun k_ => k_ ≠ s_) (.slice A33 y210.length c33) y210) ∧ (Kd.V k33 33 w' w.heap.size (fun k_ => k_ ≠ s_) (.slice A34 y221.length c34) y221) ∧ (w'.heap[s_]? = some Z6_) ∧ (w.heap.size ≤ s_) ∧ (w.heap.size ≤ s_) ∧ (Below w.heap.size w w')) ?_ ?_
   rotate_left
   rotate_left
   · skip
     rintro gb232 w37 ⟨h0_, h1_, h2_, h3_, h4_, h5_, h6_, h7_⟩
     have HO203 : Aside0 (Kd.V k33 33 w37 w.heap.size (fun k_ => k_ ≠ gb232) (.slice Ao30 y199.length co30) y199) := ⟨h1_⟩
     have HO214 : Aside0 (Kd.V k33 33 w37 w.heap.size (fun k_ => k_ ≠ gb232) (.slice A33 y210.length c33) y210) := ⟨h2_⟩
     have HO225 : Aside0 (Kd.V k33 33 w37 w.heap.size (fun k_ => k_ ≠ gb232) (.slice A34 y221.length c34) y221) := ⟨h3_⟩
     have BK232 : Aside0 (w37.heap[gb232]? = some Z6_) := ⟨h4_⟩
     have GW232 : Aside0 (w.heap.size ≤ gb232) := ⟨h5_⟩
     have GE232 : Aside0 (w.heap.size ≤ gb232) := ⟨h6_⟩
     replace HO198 : Aside0 (Kd.V k33 33 w37 w.heap.size (fun k_ => k_ ≠ gb232) (.slice Ao30 t196.length co30) t196) := ⟨h0_⟩
     replace HB : Aside0 (Below w.heap.size w w37) := ⟨h7_⟩
     clear h0_ h1_ h2_ h3_ h4_ h5_ h6_ h7_
     have hHeld := trivial
     refine norm_ (a' := ?_) ?_ ?_
     rotate_left
     · simp only [putAll, Act.put, sA_, sB_, sC_]
       rfl
     refine three_ (i := 8) (j := 14) (k := 15) (Ni := some 41) (Nj := some 12) (Nk := some 13) (ra_ [12, 1, 1, 5]) (ra_ [8, 1, 3, 1, 2, 4]) (ra_ [8, 1, 3, 1, 1, 1, 1, 3]) rfl rfl rfl rfl rfl rfl (three_of HT_.out (by kernel_rfl)) (by decide) (by decide) (by decide) (fun K hK => ?_) (fun K hK => ?_) (fun K hK => ?_)
     · skip
       refine goes_ Try.func29 (by kernel_rfl) rfl #[.slice A33 y210.length c33] (by rfl) rfl rfl (by (try simp only [List.map_toArray, List.map_cons, List.map_nil]); first | done | rfl | (simp only [List.length_drop, List.length_take]; rfl)) ?_
       with_reducible refine (agg_Of.calls k _ _ y210 t215 t216 t217 t218 t219 t220 _ ?side1 ?side2 A15.out).mono ?_
       (case side1 => repeat (first | exact (Kd.V_reads' HO214.out).2.2 | (with_reducible refine Kd.C_alloc ?_ _) | (with_reducible refine Kd.C_drewN ?_ _) | (with_reducible refine Kd.C_drew ?_)))
       (case side2 => exact (Kd.V_reads' HO214.out).2.1)
       rintro e w38 ⟨rfl, hb⟩
       refine ⟨_, rfl, ?_⟩
       replace HO198 := Aside0.mk (Kd.V_below HO198.out hb)
       replace HO203 := Aside0.mk (Kd.V_below HO203.out hb)
       replace HO214 := Aside0.mk (Kd.V_below HO214.out hb)
       replace HO225 := Aside0.mk (Kd.V_below HO225.out hb)
       replace BK232 := Aside0.mk (blk_below BK232.out hb)
       replace HB := Aside0.mk (below_step HB.out hb)
       (try clear hb)
       (try clear hb2)
       (try clear hk)
       (try clear hi)
       refine hK.out _ _ trivial (fun hHeld => ?_)
       clear hK K
       refine norm_ (a' := ?_) ?_ ?_
       rotate_left
       · show Act.put _ (some 41) _ = _
         simp only [Act.put, sA_, sB_, sC_, i64_w, i32_w]
         rfl
       exact norm_ (by rfl) (hJ3_8_13 (gb232) _ ⟨HO198.out, HO203.out, HO214.out, HO225.out, BK232.out, GW232.out, GE232.out, HB.out⟩)
     · skip
       refine box_step ?hg (N := 12) ?hd (cs := #[.int .i64 0, .int .i64 0, .int .i64 0, .int .i64 0, .int .i64 0, .int .i64 0]) (t := 50) ?hr ?_; (case hd => rfl); (case hg => rfl); (case hr => first | (go_simp; done) | (go_simp; rfl))
       intro gb233 hg w38 hbox hb
       have BK233 := Aside0.mk (hbox)
       have GW233 := Aside0.mk ((by rw [hg]; exact (below_size HB.out) : w.heap.size ≤ gb233))
       have GE233 := Aside0.mk ((by rw [hg]; exact (below_size HB.out) : w.heap.size ≤ gb233))
       have NB232_233 := Aside0.mk ((by rw [hg]; exact Nat.ne_of_lt (blk_lt BK232.out) : gb232 ≠ gb233))
       have NB233_232 := Aside0.mk ((by rw [hg]; exact Nat.ne_of_gt (blk_lt BK232.out) : gb233 ≠ gb232))
       replace HO198 := Aside0.mk (Kd.V_below (Kd.V_elderB HO198.out gb233 (Nat.le_of_eq hg.symm)) hb)
       replace HO203 := Aside0.mk (Kd.V_below (Kd.V_elderB HO203.out gb233 (Nat.le_of_eq hg.symm)) hb)
       replace HO214 := Aside0.mk (Kd.V_below (Kd.V_elderB HO214.out gb233 (Nat.le_of_eq hg.symm)) hb)
       replace HO225 := Aside0.mk (Kd.V_below (Kd.V_elderB HO225.out gb233 (Nat.le_of_eq hg.symm)) hb)
       replace BK232 := Aside0.mk (blk_below BK232.out hb)
       replace HB := Aside0.mk (below_step HB.out hb)
       clear hb hbox hg
       refine hK.out _ _ trivial (fun hHeld => ?_)
       clear hK K
       refine norm_ (a' := ?_) ?_ ?_
       rotate_left
       · show Act.put _ (some 12) _ = _
         simp only [Act.put, sA_, sB_, sC_, i64_w, i32_w]
         rfl
       exact norm_ (by rfl) (hJ3_13_14 (gb232, gb233) _ ⟨HO198.out, HO203.out, HO214.out, HO225.out, BK232.out, BK233.out, GW232.out, GE232.out, NB233_232.out, NB232_233.out, GW233.out, GE233.out, HB.out⟩)
     skip
     refine box_step ?hg (N := 13) ?hd (cs := #[.int .i64 0, .int .i64 0, .int .i64 0, .int .i64 0, .int .i64 0, .int .i64 0]) (t := 50) ?hr ?_; (case hd => rfl); (case hg => rfl); (case hr => first | (go_simp; done) | (go_simp; rfl))
     intro gb234 hg w38 hbox hb
     have BK234 := Aside0.mk (hbox)
     have GW234 := Aside0.mk ((by rw [hg]; exact (below_size HB.out) : w.heap.size ≤ gb234))
     have GE234 := Aside0.mk ((by rw [hg]; exact (below_size HB.out) : w.heap.size ≤ gb234))
     have NB232_234 := Aside0.mk ((by rw [hg]; exact Nat.ne_of_lt (blk_lt BK232.out) : gb232 ≠ gb234))
     have NB234_232 := Aside0.mk ((by rw [hg]; exact Nat.ne_of_gt (blk_lt BK232.out) : gb234 ≠ gb232))
     replace HO198 := Aside0.mk (Kd.V_below (Kd.V_elderB HO198.out gb234 (Nat.le_of_eq hg.symm)) hb)
     replace HO203 := Aside0.mk (Kd.V_below (Kd.V_elderB HO203.out gb234 (Nat.le_of_eq hg.symm)) hb)
     replace HO214 := Aside0.mk (Kd.V_below (Kd.V_elderB HO214.out gb234 (Nat.le_of_eq hg.symm)) hb)
     replace HO225 := Aside0.mk (Kd.V_below (Kd.V_elderB HO225.out gb234 (Nat.le_of_eq hg.symm)) hb)
     replace BK232 := Aside0.mk (blk_below BK232.out hb)
     replace HB := Aside0.mk (below_step HB.out hb)
     clear hb hbox hg
     refine hK.out _ _ trivial (fun hHeld => ?_)
     clear hK K
     refine norm_ (a' := ?_) ?_ ?_
     rotate_left
     · show Act.put _ (some 13) _ = _
       simp only [Act.put, sA_, sB_, sC_, i64_w, i32_w]
       rfl
     exact norm_ (by rfl) (hJ3_13_15 (gb232, gb234) _ ⟨HO198.out, HO203.out, HO214.out, HO225.out, BK232.out, BK234.out, GW232.out, GE232.out, NB234_232.out, NB232_234.out, GW234.out, GE234.out, HB.out⟩)
   intro hJ3_13
   refine join_ (σ := Nat) 7 (ra_ [8, 1, 3, 2, 1, 4]) (fun s_ => [(36, .agg #[.int .i64 t204, .int .i64 t205, .int .i64 t206, .int .i64 t207, .int .i64 t208, .int .i64 t209]), (12, .pointer (some ⟨s_, 0, none⟩))]) (fun s_ w' => (Kd.V k33 33 w' w.heap.size (fun k_ => k_ ≠ s_) (.slice Ao30 t196.length co30) t196) ∧ (Kd.V k33 33 w' w.heap.size (fun k_ => k_ ≠ s_) (.slice Ao30 y199.length co30) y199) ∧ (Kd.V k33 33 w' w.heap.size (fun k_ => k_ ≠ s_) (.slice A33 y210.length c33) y210) ∧ (Kd.V k33 33 w' w.heap.size (fun k_ => k_ ≠ s_) (.slice A34 y221.length c34) y221) ∧ (w'.heap[s_]? = some Z6_) ∧ (w.heap.size ≤ s_) ∧ (w.heap.size ≤ s_) ∧ (Below w.heap.size w w')) ?_ ?_
   rotate_left
   rotate_left
   · skip
     rintro gb233 w37 ⟨h0_, h1_, h2_, h3_, h4_, h5_, h6_, h7_⟩
     have HO203 : Aside0 (Kd.V k33 33 w37 w.heap.size (fun k_ => k_ ≠ gb233) (.slice Ao30 y199.length co30) y199) := ⟨h1_⟩
     have HO214 : Aside0 (Kd.V k33 33 w37 w.heap.size (fun k_ => k_ ≠ gb233) (.slice A33 y210.length c33) y210) := ⟨h2_⟩
     have HO225 : Aside0 (Kd.V k33 33 w37 w.heap.size (fun k_ => k_ ≠ gb233) (.slice A34 y221.length c34) y221) := ⟨h3_⟩
     have BK233 : Aside0 (w37.heap[gb233]? = some Z6_) := ⟨h4_⟩
     have GW233 : Aside0 (w.heap.size ≤ gb233) := ⟨h5_⟩
     have GE233 : Aside0 (w.heap.size ≤ gb233) := ⟨h6_⟩
     replace HO198 : Aside0 (Kd.V k33 33 w37 w.heap.size (fun k_ => k_ ≠ gb233) (.slice Ao30 t196.length co30) t196) := ⟨h0_⟩
     replace HB : Aside0 (Below w.heap.size w w37) := ⟨h7_⟩
     clear h0_ h1_ h2_ h3_ h4_ h5_ h6_ h7_
     have hHeld := trivial
     refine norm_ (a' := ?_) ?_ ?_
     rotate_left
     · simp only [putAll, Act.put, sA_, sB_, sC_]
       rfl
     refine three_ (i := 8) (j := 13) (k := 15) (Ni := some 41) (Nj := some 11) (Nk := some 13) (ra_ [12, 2, 1, 4]) (ra_ [8, 1, 3, 1, 2, 4]) (ra_ [8, 1, 3, 2, 2, 3]) rfl rfl rfl rfl rfl rfl (three_of HT_.out (by kernel_rfl)) (by decide) (by decide) (by decide) (fun K hK => ?_) (fun K hK => ?_) (fun K hK => ?_)
     · skip
       refine goes_ Try.func29 (by kernel_rfl) rfl #[.slice A33 y210.length c33] (by rfl) rfl rfl (by (try simp only [List.map_toArray, List.map_cons, List.map_nil]); first | done | rfl | (simp only [List.length_drop, List.length_take]; rfl)) ?_
       with_reducible refine (agg_Of.calls k _ _ y210 t215 t216 t217 t218 t219 t220 _ ?side1 ?side2 A15.out).mono ?_
       (case side1 => repeat (first | exact (Kd.V_reads' HO214.out).2.2 | (with_reducible refine Kd.C_alloc ?_ _) | (with_reducible refine Kd.C_drewN ?_ _) | (with_reducible refine Kd.C_drew ?_)))
       (case side2 => exact (Kd.V_reads' HO214.out).2.1)
       rintro e w38 ⟨rfl, hb⟩
       refine ⟨_, rfl, ?_⟩
       replace HO198 := Aside0.mk (Kd.V_below HO198.out hb)
       replace HO203 := Aside0.mk (Kd.V_below HO203.out hb)
       replace HO214 := Aside0.mk (Kd.V_below HO214.out hb)
       replace HO225 := Aside0.mk (Kd.V_below HO225.out hb)
       replace BK233 := Aside0.mk (blk_below BK233.out hb)
       replace HB := Aside0.mk (below_step HB.out hb)
       (try clear hb)
       (try clear hb2)
       (try clear hk)
       (try clear hi)
       refine hK.out _ _ trivial (fun hHeld => ?_)
       clear hK K
       refine norm_ (a' := ?_) ?_ ?_
       rotate_left
       · show Act.put _ (some 41) _ = _
         simp only [Act.put, sA_, sB_, sC_, i64_w, i32_w]
         rfl
       exact norm_ (by rfl) (hJ3_8_14 (gb233) _ ⟨HO198.out, HO203.out, HO214.out, HO225.out, BK233.out, GW233.out, GE233.out, HB.out⟩)
     · skip
       refine box_step ?hg (N := 11) ?hd (cs := #[.int .i64 0, .int .i64 0, .int .i64 0, .int .i64 0, .int .i64 0, .int .i64 0]) (t := 50) ?hr ?_; (case hd => rfl); (case hg => rfl); (case hr => first | (go_simp; done) | (go_simp; rfl))
       intro gb232 hg w38 hbox hb
       have BK232 := Aside0.mk (hbox)
       have GW232 := Aside0.mk ((by rw [hg]; exact (below_size HB.out) : w.heap.size ≤ gb232))
       have GE232 := Aside0.mk ((by rw [hg]; exact (below_size HB.out) : w.heap.size ≤ gb232))
       have NB233_232 := Aside0.mk ((by rw [hg]; exact Nat.ne_of_lt (blk_lt BK233.out) : gb233 ≠ gb232))
       have NB232_233 := Aside0.mk ((by rw [hg]; exact Nat.ne_of_gt (blk_lt BK233.out) : gb232 ≠ gb233))
       replace HO198 := Aside0.mk (Kd.V_below (Kd.V_elderB HO198.out gb232 (Nat.le_of_eq hg.symm)) hb)
       replace HO203 := Aside0.mk (Kd.V_below (Kd.V_elderB HO203.out gb232 (Nat.le_of_eq hg.symm)) hb)
       replace HO214 := Aside0.mk (Kd.V_below (Kd.V_elderB HO214.out gb232 (Nat.le_of_eq hg.symm)) hb)
       replace HO225 := Aside0.mk (Kd.V_below (Kd.V_elderB HO225.out gb232 (Nat.le_of_eq hg.symm)) hb)
       replace BK233 := Aside0.mk (blk_below BK233.out hb)
       replace HB := Aside0.mk (below_step HB.out hb)
       clear hb hbox hg
       refine hK.out _ _ trivial (fun hHeld => ?_)
       clear hK K
       refine norm_ (a' := ?_) ?_ ?_
       rotate_left
       · show Act.put _ (some 11) _ = _
         simp only [Act.put, sA_, sB_, sC_, i64_w, i32_w]
         rfl
       exact norm_ (by rfl) (hJ3_13_14 (gb232, gb233) _ ⟨Kd.V_mono HO198.out (fun _ hk => ⟨hk.2, hk.1⟩), Kd.V_mono HO203.out (fun _ hk => ⟨hk.2, hk.1⟩), Kd.V_mono HO214.out (fun _ hk => ⟨hk.2, hk.1⟩), Kd.V_mono HO225.out (fun _ hk => ⟨hk.2, hk.1⟩), BK232.out, BK233.out, GW232.out, GE232.out, NB233_232.out, NB232_233.out, GW233.out, GE233.out, HB.out⟩)
     skip
     refine box_step ?hg (N := 13) ?hd (cs := #[.int .i64 0, .int .i64 0, .int .i64 0, .int .i64 0, .int .i64 0, .int .i64 0]) (t := 50) ?hr ?_; (case hd => rfl); (case hg => rfl); (case hr => first | (go_simp; done) | (go_simp; rfl))
     intro gb234 hg w38 hbox hb
     have BK234 := Aside0.mk (hbox)
     have GW234 := Aside0.mk ((by rw [hg]; exact (below_size HB.out) : w.heap.size ≤ gb234))
     have GE234 := Aside0.mk ((by rw [hg]; exact (below_size HB.out) : w.heap.size ≤ gb234))
     have NB233_234 := Aside0.mk ((by rw [hg]; exact Nat.ne_of_lt (blk_lt BK233.out) : gb233 ≠ gb234))
     have NB234_233 := Aside0.mk ((by rw [hg]; exact Nat.ne_of_gt (blk_lt BK233.out) : gb234 ≠ gb233))
     replace HO198 := Aside0.mk (Kd.V_below (Kd.V_elderB HO198.out gb234 (Nat.le_of_eq hg.symm)) hb)
     replace HO203 := Aside0.mk (Kd.V_below (Kd.V_elderB HO203.out gb234 (Nat.le_of_eq hg.symm)) hb)
     replace HO214 := Aside0.mk (Kd.V_below (Kd.V_elderB HO214.out gb234 (Nat.le_of_eq hg.symm)) hb)
     replace HO225 := Aside0.mk (Kd.V_below (Kd.V_elderB HO225.out gb234 (Nat.le_of_eq hg.symm)) hb)
     replace BK233 := Aside0.mk (blk_below BK233.out hb)
     replace HB := Aside0.mk (below_step HB.out hb)
     clear hb hbox hg
     refine hK.out _ _ trivial (fun hHeld => ?_)
     clear hK K
     refine norm_ (a' := ?_) ?_ ?_
     rotate_left
     · show Act.put _ (some 13) _ = _
       simp only [Act.put, sA_, sB_, sC_, i64_w, i32_w]
       rfl
     exact norm_ (by rfl) (hJ3_14_15 (gb233, gb234) _ ⟨HO198.out, HO203.out, HO214.out, HO225.out, BK233.out, BK234.out, GW233.out, GE233.out, NB234_233.out, NB233_234.out, GW234.out, GE234.out, HB.out⟩)
   intro hJ3_14
   refine join_ (σ := Nat) 7 (ra_ [8, 1, 3, 3, 1, 3]) (fun s_ => [(36, .agg #[.int .i64 t204, .int .i64 t205, .int .i64 t206, .int .i64 t207, .int .i64 t208, .int .i64 t209]), (13, .pointer (some ⟨s_, 0, none⟩))]) (fun s_ w' => (Kd.V k33 33 w' w.heap.size (fun k_ => k_ ≠ s_) (.slice Ao30 t196.length co30) t196) ∧ (Kd.V k33 33 w' w.heap.size (fun k_ => k_ ≠ s_) (.slice Ao30 y199.length co30) y199) ∧ (Kd.V k33 33 w' w.heap.size (fun k_ => k_ ≠ s_) (.slice A33 y210.length c33) y210) ∧ (Kd.V k33 33 w' w.heap.size (fun k_ => k_ ≠ s_) (.slice A34 y221.length c34) y221) ∧ (w'.heap[s_]? = some Z6_) ∧ (w.heap.size ≤ s_) ∧ (w.heap.size ≤ s_) ∧ (Below w.heap.size w w')) ?_ ?_
   rotate_left
   rotate_left
   · skip
     rintro gb234 w37 ⟨h0_, h1_, h2_, h3_, h4_, h5_, h6_, h7_⟩
     have HO203 : Aside0 (Kd.V k33 33 w37 w.heap.size (fun k_ => k_ ≠ gb234) (.slice Ao30 y199.length co30) y199) := ⟨h1_⟩
     have HO214 : Aside0 (Kd.V k33 33 w37 w.heap.size (fun k_ => k_ ≠ gb234) (.slice A33 y210.length c33) y210) := ⟨h2_⟩
     have HO225 : Aside0 (Kd.V k33 33 w37 w.heap.size (fun k_ => k_ ≠ gb234) (.slice A34 y221.length c34) y221) := ⟨h3_⟩
     have BK234 : Aside0 (w37.heap[gb234]? = some Z6_) := ⟨h4_⟩
     have GW234 : Aside0 (w.heap.size ≤ gb234) := ⟨h5_⟩
     have GE234 : Aside0 (w.heap.size ≤ gb234) := ⟨h6_⟩
     replace HO198 : Aside0 (Kd.V k33 33 w37 w.heap.size (fun k_ => k_ ≠ gb234) (.slice Ao30 t196.length co30) t196) := ⟨h0_⟩
     replace HB : Aside0 (Below w.heap.size w w37) := ⟨h7_⟩
     clear h0_ h1_ h2_ h3_ h4_ h5_ h6_ h7_
     have hHeld := trivial
     refine norm_ (a' := ?_) ?_ ?_
     rotate_left
     · simp only [putAll, Act.put, sA_, sB_, sC_]
       rfl
     refine three_ (i := 8) (j := 13) (k := 14) (Ni := some 41) (Nj := some 11) (Nk := some 12) (ra_ [12, 3, 1, 3]) (ra_ [8, 1, 3, 1, 1, 1, 1, 3]) (ra_ [8, 1, 3, 2, 2, 3]) rfl rfl rfl rfl rfl rfl (three_of HT_.out (by kernel_rfl)) (by decide) (by decide) (by decide) (fun K hK => ?_) (fun K hK => ?_) (fun K hK => ?_)
     · skip
       refine goes_ Try.func29 (by kernel_rfl) rfl #[.slice A33 y210.length c33] (by rfl) rfl rfl (by (try simp only [List.map_toArray, List.map_cons, List.map_nil]); first | done | rfl | (simp only [List.length_drop, List.length_take]; rfl)) ?_
       with_reducible refine (agg_Of.calls k _ _ y210 t215 t216 t217 t218 t219 t220 _ ?side1 ?side2 A15.out).mono ?_
       (case side1 => repeat (first | exact (Kd.V_reads' HO214.out).2.2 | (with_reducible refine Kd.C_alloc ?_ _) | (with_reducible refine Kd.C_drewN ?_ _) | (with_reducible refine Kd.C_drew ?_)))
       (case side2 => exact (Kd.V_reads' HO214.out).2.1)
       rintro e w38 ⟨rfl, hb⟩
       refine ⟨_, rfl, ?_⟩
       replace HO198 := Aside0.mk (Kd.V_below HO198.out hb)
       replace HO203 := Aside0.mk (Kd.V_below HO203.out hb)
       replace HO214 := Aside0.mk (Kd.V_below HO214.out hb)
       replace HO225 := Aside0.mk (Kd.V_below HO225.out hb)
       replace BK234 := Aside0.mk (blk_below BK234.out hb)
       replace HB := Aside0.mk (below_step HB.out hb)
       (try clear hb)
       (try clear hb2)
       (try clear hk)
       (try clear hi)
       refine hK.out _ _ trivial (fun hHeld => ?_)
       clear hK K
       refine norm_ (a' := ?_) ?_ ?_
       rotate_left
       · show Act.put _ (some 41) _ = _
         simp only [Act.put, sA_, sB_, sC_, i64_w, i32_w]
         rfl
       exact norm_ (by rfl) (hJ3_8_15 (gb234) _ ⟨HO198.out, HO203.out, HO214.out, HO225.out, BK234.out, GW234.out, GE234.out, HB.out⟩)
     · skip
       refine box_step ?hg (N := 11) ?hd (cs := #[.int .i64 0, .int .i64 0, .int .i64 0, .int .i64 0, .int .i64 0, .int .i64 0]) (t := 50) ?hr ?_; (case hd => rfl); (case hg => rfl); (case hr => first | (go_simp; done) | (go_simp; rfl))
       intro gb232 hg w38 hbox hb
       have BK232 := Aside0.mk (hbox)
       have GW232 := Aside0.mk ((by rw [hg]; exact (below_size HB.out) : w.heap.size ≤ gb232))
       have GE232 := Aside0.mk ((by rw [hg]; exact (below_size HB.out) : w.heap.size ≤ gb232))
       have NB234_232 := Aside0.mk ((by rw [hg]; exact Nat.ne_of_lt (blk_lt BK234.out) : gb234 ≠ gb232))
       have NB232_234 := Aside0.mk ((by rw [hg]; exact Nat.ne_of_gt (blk_lt BK234.out) : gb232 ≠ gb234))
       replace HO198 := Aside0.mk (Kd.V_below (Kd.V_elderB HO198.out gb232 (Nat.le_of_eq hg.symm)) hb)
       replace HO203 := Aside0.mk (Kd.V_below (Kd.V_elderB HO203.out gb232 (Nat.le_of_eq hg.symm)) hb)
       replace HO214 := Aside0.mk (Kd.V_below (Kd.V_elderB HO214.out gb232 (Nat.le_of_eq hg.symm)) hb)
       replace HO225 := Aside0.mk (Kd.V_below (Kd.V_elderB HO225.out gb232 (Nat.le_of_eq hg.symm)) hb)
       replace BK234 := Aside0.mk (blk_below BK234.out hb)
       replace HB := Aside0.mk (below_step HB.out hb)
       clear hb hbox hg
       refine hK.out _ _ trivial (fun hHeld => ?_)
       clear hK K
       refine norm_ (a' := ?_) ?_ ?_
       rotate_left
       · show Act.put _ (some 11) _ = _
         simp only [Act.put, sA_, sB_, sC_, i64_w, i32_w]
         rfl
       exact norm_ (by rfl) (hJ3_13_15 (gb232, gb234) _ ⟨Kd.V_mono HO198.out (fun _ hk => ⟨hk.2, hk.1⟩), Kd.V_mono HO203.out (fun _ hk => ⟨hk.2, hk.1⟩), Kd.V_mono HO214.out (fun _ hk => ⟨hk.2, hk.1⟩), Kd.V_mono HO225.out (fun _ hk => ⟨hk.2, hk.1⟩), BK232.out, BK234.out, GW232.out, GE232.out, NB234_232.out, NB232_234.out, GW234.out, GE234.out, HB.out⟩)
     skip
     refine box_step ?hg (N := 12) ?hd (cs := #[.int .i64 0, .int .i64 0, .int .i64 0, .int .i64 0, .int .i64 0, .int .i64 0]) (t := 50) ?hr ?_; (case hd => rfl); (case hg => rfl); (case hr => first | (go_simp; done) | (go_simp; rfl))
     intro gb233 hg w38 hbox hb
     have BK233 := Aside0.mk (hbox)
     have GW233 := Aside0.mk ((by rw [hg]; exact (below_size HB.out) : w.heap.size ≤ gb233))
     have GE233 := Aside0.mk ((by rw [hg]; exact (below_size HB.out) : w.heap.size ≤ gb233))
     have NB234_233 := Aside0.mk ((by rw [hg]; exact Nat.ne_of_lt (blk_lt BK234.out) : gb234 ≠ gb233))
     have NB233_234 := Aside0.mk ((by rw [hg]; exact Nat.ne_of_gt (blk_lt BK234.out) : gb233 ≠ gb234))
     replace HO198 := Aside0.mk (Kd.V_below (Kd.V_elderB HO198.out gb233 (Nat.le_of_eq hg.symm)) hb)
     replace HO203 := Aside0.mk (Kd.V_below (Kd.V_elderB HO203.out gb233 (Nat.le_of_eq hg.symm)) hb)
     replace HO214 := Aside0.mk (Kd.V_below (Kd.V_elderB HO214.out gb233 (Nat.le_of_eq hg.symm)) hb)
     replace HO225 := Aside0.mk (Kd.V_below (Kd.V_elderB HO225.out gb233 (Nat.le_of_eq hg.symm)) hb)
     replace BK234 := Aside0.mk (blk_below BK234.out hb)
     replace HB := Aside0.mk (below_step HB.out hb)
     clear hb hbox hg
     refine hK.out _ _ trivial (fun hHeld => ?_)
     clear hK K
     refine norm_ (a' := ?_) ?_ ?_
     rotate_left
     · show Act.put _ (some 12) _ = _
       simp only [Act.put, sA_, sB_, sC_, i64_w, i32_w]
       rfl
     exact norm_ (by rfl) (hJ3_14_15 (gb233, gb234) _ ⟨Kd.V_mono HO198.out (fun _ hk => ⟨hk.2, hk.1⟩), Kd.V_mono HO203.out (fun _ hk => ⟨hk.2, hk.1⟩), Kd.V_mono HO214.out (fun _ hk => ⟨hk.2, hk.1⟩), Kd.V_mono HO225.out (fun _ hk => ⟨hk.2, hk.1⟩), BK233.out, BK234.out, GW233.out, GE233.out, NB234_233.out, NB233_234.out, GW234.out, GE234.out, HB.out⟩)
   intro hJ3_15
   refine join_ (σ := Nat × Nat) 7 (ra_ [3, 1, 4, 1, 3, 1, 2, 4]) (fun s_ => [(11, .pointer (some ⟨s_.1, 0, none⟩)), (12, .pointer (some ⟨s_.2, 0, none⟩))]) (fun s_ w' => (Kd.V k33 33 w' w.heap.size (fun k_ => k_ ≠ s_.1 ∧ k_ ≠ s_.2) (.slice Ao30 t196.length co30) t196) ∧ (Kd.V k33 33 w' w.heap.size (fun k_ => k_ ≠ s_.1 ∧ k_ ≠ s_.2) (.slice Ao30 y199.length co30) y199) ∧ (Kd.V k33 33 w' w.heap.size (fun k_ => k_ ≠ s_.1 ∧ k_ ≠ s_.2) (.slice A33 y210.length c33) y210) ∧ (Kd.V k33 33 w' w.heap.size (fun k_ => k_ ≠ s_.1 ∧ k_ ≠ s_.2) (.slice A34 y221.length c34) y221) ∧ (w'.heap[s_.1]? = some Z6_) ∧ (w'.heap[s_.2]? = some Z6_) ∧ (w.heap.size ≤ s_.1) ∧ (w.heap.size ≤ s_.1) ∧ (s_.2 ≠ s_.1) ∧ (s_.1 ≠ s_.2) ∧ (w.heap.size ≤ s_.2) ∧ (w.heap.size ≤ s_.2) ∧ (Below w.heap.size w w')) ?_ ?_
   rotate_left
   rotate_left
   · skip
     rintro ⟨gb232, gb233⟩ w37 ⟨h0_, h1_, h2_, h3_, h4_, h5_, h6_, h7_, h8_, h9_, h10_, h11_, h12_⟩
     have HO203 : Aside0 (Kd.V k33 33 w37 w.heap.size (fun k_ => k_ ≠ gb232 ∧ k_ ≠ gb233) (.slice Ao30 y199.length co30) y199) := ⟨h1_⟩
     have HO214 : Aside0 (Kd.V k33 33 w37 w.heap.size (fun k_ => k_ ≠ gb232 ∧ k_ ≠ gb233) (.slice A33 y210.length c33) y210) := ⟨h2_⟩
     have HO225 : Aside0 (Kd.V k33 33 w37 w.heap.size (fun k_ => k_ ≠ gb232 ∧ k_ ≠ gb233) (.slice A34 y221.length c34) y221) := ⟨h3_⟩
     have BK232 : Aside0 (w37.heap[gb232]? = some Z6_) := ⟨h4_⟩
     have BK233 : Aside0 (w37.heap[gb233]? = some Z6_) := ⟨h5_⟩
     have GW232 : Aside0 (w.heap.size ≤ gb232) := ⟨h6_⟩
     have GE232 : Aside0 (w.heap.size ≤ gb232) := ⟨h7_⟩
     have NB233_232 : Aside0 (gb233 ≠ gb232) := ⟨h8_⟩
     have NB232_233 : Aside0 (gb232 ≠ gb233) := ⟨h9_⟩
     have GW233 : Aside0 (w.heap.size ≤ gb233) := ⟨h10_⟩
     have GE233 : Aside0 (w.heap.size ≤ gb233) := ⟨h11_⟩
     replace HO198 : Aside0 (Kd.V k33 33 w37 w.heap.size (fun k_ => k_ ≠ gb232 ∧ k_ ≠ gb233) (.slice Ao30 t196.length co30) t196) := ⟨h0_⟩
     replace HB : Aside0 (Below w.heap.size w w37) := ⟨h12_⟩
     clear h0_ h1_ h2_ h3_ h4_ h5_ h6_ h7_ h8_ h9_ h10_ h11_ h12_
     have hHeld := trivial
     refine norm_ (a' := ?_) ?_ ?_
     rotate_left
     · simp only [putAll, Act.put, sA_, sB_, sC_]
       rfl
     refine two_ (i := 3) (j := 15) (Ni := some 36) (Nj := some 13) (ra_ [8, 1, 3, 1, 2, 4]) (ra_ [3, 1, 4, 1, 3, 1, 3, 3]) rfl rfl rfl rfl (two_of HT_.out (by kernel_rfl)) (by decide) (by decide) (fun K hK => ?_) (fun K hK => ?_)
     · skip
       refine goes_ Try.func29 (by kernel_rfl) rfl #[.slice Ao30 y199.length co30] (by rfl) rfl rfl (by (try simp only [List.map_toArray, List.map_cons, List.map_nil]); first | done | rfl | (simp only [List.length_drop, List.length_take]; rfl)) ?_
       with_reducible refine (agg_Of.calls k _ _ y199 t204 t205 t206 t207 t208 t209 _ ?side1 ?side2 A11.out).mono ?_
       (case side1 => repeat (first | exact (Kd.V_reads' HO203.out).2.2 | (with_reducible refine Kd.C_alloc ?_ _) | (with_reducible refine Kd.C_drewN ?_ _) | (with_reducible refine Kd.C_drew ?_)))
       (case side2 => exact (Kd.V_reads' HO203.out).2.1)
       rintro e w38 ⟨rfl, hb⟩
       refine ⟨_, rfl, ?_⟩
       replace HO198 := Aside0.mk (Kd.V_below HO198.out hb)
       replace HO203 := Aside0.mk (Kd.V_below HO203.out hb)
       replace HO214 := Aside0.mk (Kd.V_below HO214.out hb)
       replace HO225 := Aside0.mk (Kd.V_below HO225.out hb)
       replace BK232 := Aside0.mk (blk_below BK232.out hb)
       replace BK233 := Aside0.mk (blk_below BK233.out hb)
       replace HB := Aside0.mk (below_step HB.out hb)
       (try clear hb)
       (try clear hb2)
       (try clear hk)
       (try clear hi)
       refine hK.out _ _ trivial (fun hHeld => ?_)
       clear hK K
       refine norm_ (a' := ?_) ?_ ?_
       rotate_left
       · show Act.put _ (some 36) _ = _
         simp only [Act.put, sA_, sB_, sC_, i64_w, i32_w]
         rfl
       exact norm_ (by rfl) (hJ3_13_14 (gb232, gb233) _ ⟨HO198.out, HO203.out, HO214.out, HO225.out, BK232.out, BK233.out, GW232.out, GE232.out, NB233_232.out, NB232_233.out, GW233.out, GE233.out, HB.out⟩)
     skip
     refine box_step ?hg (N := 13) ?hd (cs := #[.int .i64 0, .int .i64 0, .int .i64 0, .int .i64 0, .int .i64 0, .int .i64 0]) (t := 50) ?hr ?_; (case hd => rfl); (case hg => rfl); (case hr => first | (go_simp; done) | (go_simp; rfl))
     intro gb234 hg w38 hbox hb
     have BK234 := Aside0.mk (hbox)
     have GW234 := Aside0.mk ((by rw [hg]; exact (below_size HB.out) : w.heap.size ≤ gb234))
     have GE234 := Aside0.mk ((by rw [hg]; exact (below_size HB.out) : w.heap.size ≤ gb234))
     have NB232_234 := Aside0.mk ((by rw [hg]; exact Nat.ne_of_lt (blk_lt BK232.out) : gb232 ≠ gb234))
     have NB234_232 := Aside0.mk ((by rw [hg]; exact Nat.ne_of_gt (blk_lt BK232.out) : gb234 ≠ gb232))
     have NB233_234 := Aside0.mk ((by rw [hg]; exact Nat.ne_of_lt (blk_lt BK233.out) : gb233 ≠ gb234))
     have NB234_233 := Aside0.mk ((by rw [hg]; exact Nat.ne_of_gt (blk_lt BK233.out) : gb234 ≠ gb233))
     replace HO198 := Aside0.mk (Kd.V_below (Kd.V_elderB HO198.out gb234 (Nat.le_of_eq hg.symm)) hb)
     replace HO203 := Aside0.mk (Kd.V_below (Kd.V_elderB HO203.out gb234 (Nat.le_of_eq hg.symm)) hb)
     replace HO214 := Aside0.mk (Kd.V_below (Kd.V_elderB HO214.out gb234 (Nat.le_of_eq hg.symm)) hb)
     replace HO225 := Aside0.mk (Kd.V_below (Kd.V_elderB HO225.out gb234 (Nat.le_of_eq hg.symm)) hb)
     replace BK232 := Aside0.mk (blk_below BK232.out hb)
     replace BK233 := Aside0.mk (blk_below BK233.out hb)
     replace HB := Aside0.mk (below_step HB.out hb)
     clear hb hbox hg
     refine hK.out _ _ trivial (fun hHeld => ?_)
     clear hK K
     refine norm_ (a' := ?_) ?_ ?_
     rotate_left
     · show Act.put _ (some 13) _ = _
       simp only [Act.put, sA_, sB_, sC_, i64_w, i32_w]
       rfl
     exact norm_ (by rfl) (hJ13_14_15 (gb232, gb233, gb234) _ ⟨Kd.V_mono HO198.out (fun _ hk => ⟨hk.1.1, ⟨hk.1.2, hk.2⟩⟩), Kd.V_mono HO203.out (fun _ hk => ⟨hk.1.1, ⟨hk.1.2, hk.2⟩⟩), Kd.V_mono HO214.out (fun _ hk => ⟨hk.1.1, ⟨hk.1.2, hk.2⟩⟩), Kd.V_mono HO225.out (fun _ hk => ⟨hk.1.1, ⟨hk.1.2, hk.2⟩⟩), BK232.out, BK233.out, BK234.out, GW232.out, GE232.out, NB233_232.out, NB232_233.out, NB234_232.out, NB232_234.out, GW233.out, GE233.out, NB234_233.out, NB233_234.out, GW234.out, GE234.out, HB.out⟩)
   intro hJ13_14
   refine join_ (σ := Nat × Nat) 7 (ra_ [3, 1, 4, 1, 3, 1, 1, 1, 1, 3]) (fun s_ => [(11, .pointer (some ⟨s_.1, 0, none⟩)), (13, .pointer (some ⟨s_.2, 0, none⟩))]) (fun s_ w' => (Kd.V k33 33 w' w.heap.size (fun k_ => k_ ≠ s_.1 ∧ k_ ≠ s_.2) (.slice Ao30 t196.length co30) t196) ∧ (Kd.V k33 33 w' w.heap.size (fun k_ => k_ ≠ s_.1 ∧ k_ ≠ s_.2) (.slice Ao30 y199.length co30) y199) ∧ (Kd.V k33 33 w' w.heap.size (fun k_ => k_ ≠ s_.1 ∧ k_ ≠ s_.2) (.slice A33 y210.length c33) y210) ∧ (Kd.V k33 33 w' w.heap.size (fun k_ => k_ ≠ s_.1 ∧ k_ ≠ s_.2) (.slice A34 y221.length c34) y221) ∧ (w'.heap[s_.1]? = some Z6_) ∧ (w'.heap[s_.2]? = some Z6_) ∧ (w.heap.size ≤ s_.1) ∧ (w.heap.size ≤ s_.1) ∧ (s_.2 ≠ s_.1) ∧ (s_.1 ≠ s_.2) ∧ (w.heap.size ≤ s_.2) ∧ (w.heap.size ≤ s_.2) ∧ (Below w.heap.size w w')) ?_ ?_
   rotate_left
   rotate_left
   · skip
     rintro ⟨gb232, gb234⟩ w37 ⟨h0_, h1_, h2_, h3_, h4_, h5_, h6_, h7_, h8_, h9_, h10_, h11_, h12_⟩
     have HO203 : Aside0 (Kd.V k33 33 w37 w.heap.size (fun k_ => k_ ≠ gb232 ∧ k_ ≠ gb234) (.slice Ao30 y199.length co30) y199) := ⟨h1_⟩
     have HO214 : Aside0 (Kd.V k33 33 w37 w.heap.size (fun k_ => k_ ≠ gb232 ∧ k_ ≠ gb234) (.slice A33 y210.length c33) y210) := ⟨h2_⟩
     have HO225 : Aside0 (Kd.V k33 33 w37 w.heap.size (fun k_ => k_ ≠ gb232 ∧ k_ ≠ gb234) (.slice A34 y221.length c34) y221) := ⟨h3_⟩
     have BK232 : Aside0 (w37.heap[gb232]? = some Z6_) := ⟨h4_⟩
     have BK234 : Aside0 (w37.heap[gb234]? = some Z6_) := ⟨h5_⟩
     have GW232 : Aside0 (w.heap.size ≤ gb232) := ⟨h6_⟩
     have GE232 : Aside0 (w.heap.size ≤ gb232) := ⟨h7_⟩
     have NB234_232 : Aside0 (gb234 ≠ gb232) := ⟨h8_⟩
     have NB232_234 : Aside0 (gb232 ≠ gb234) := ⟨h9_⟩
     have GW234 : Aside0 (w.heap.size ≤ gb234) := ⟨h10_⟩
     have GE234 : Aside0 (w.heap.size ≤ gb234) := ⟨h11_⟩
     replace HO198 : Aside0 (Kd.V k33 33 w37 w.heap.size (fun k_ => k_ ≠ gb232 ∧ k_ ≠ gb234) (.slice Ao30 t196.length co30) t196) := ⟨h0_⟩
     replace HB : Aside0 (Below w.heap.size w w37) := ⟨h12_⟩
     clear h0_ h1_ h2_ h3_ h4_ h5_ h6_ h7_ h8_ h9_ h10_ h11_ h12_
     have hHeld := trivial
     refine norm_ (a' := ?_) ?_ ?_
     rotate_left
     · simp only [putAll, Act.put, sA_, sB_, sC_]
       rfl
     refine two_ (i := 3) (j := 14) (Ni := some 36) (Nj := some 12) (ra_ [8, 1, 3, 1, 1, 1, 1, 3]) (ra_ [3, 1, 4, 1, 3, 1, 3, 3]) rfl rfl rfl rfl (two_of HT_.out (by kernel_rfl)) (by decide) (by decide) (fun K hK => ?_) (fun K hK => ?_)
     · skip
       refine goes_ Try.func29 (by kernel_rfl) rfl #[.slice Ao30 y199.length co30] (by rfl) rfl rfl (by (try simp only [List.map_toArray, List.map_cons, List.map_nil]); first | done | rfl | (simp only [List.length_drop, List.length_take]; rfl)) ?_
       with_reducible refine (agg_Of.calls k _ _ y199 t204 t205 t206 t207 t208 t209 _ ?side1 ?side2 A11.out).mono ?_
       (case side1 => repeat (first | exact (Kd.V_reads' HO203.out).2.2 | (with_reducible refine Kd.C_alloc ?_ _) | (with_reducible refine Kd.C_drewN ?_ _) | (with_reducible refine Kd.C_drew ?_)))
       (case side2 => exact (Kd.V_reads' HO203.out).2.1)
       rintro e w38 ⟨rfl, hb⟩
       refine ⟨_, rfl, ?_⟩
       replace HO198 := Aside0.mk (Kd.V_below HO198.out hb)
       replace HO203 := Aside0.mk (Kd.V_below HO203.out hb)
       replace HO214 := Aside0.mk (Kd.V_below HO214.out hb)
       replace HO225 := Aside0.mk (Kd.V_below HO225.out hb)
       replace BK232 := Aside0.mk (blk_below BK232.out hb)
       replace BK234 := Aside0.mk (blk_below BK234.out hb)
       replace HB := Aside0.mk (below_step HB.out hb)
       (try clear hb)
       (try clear hb2)
       (try clear hk)
       (try clear hi)
       refine hK.out _ _ trivial (fun hHeld => ?_)
       clear hK K
       refine norm_ (a' := ?_) ?_ ?_
       rotate_left
       · show Act.put _ (some 36) _ = _
         simp only [Act.put, sA_, sB_, sC_, i64_w, i32_w]
         rfl
       exact norm_ (by rfl) (hJ3_13_15 (gb232, gb234) _ ⟨HO198.out, HO203.out, HO214.out, HO225.out, BK232.out, BK234.out, GW232.out, GE232.out, NB234_232.out, NB232_234.out, GW234.out, GE234.out, HB.out⟩)
     skip
     refine box_step ?hg (N := 12) ?hd (cs := #[.int .i64 0, .int .i64 0, .int .i64 0, .int .i64 0, .int .i64 0, .int .i64 0]) (t := 50) ?hr ?_; (case hd => rfl); (case hg => rfl); (case hr => first | (go_simp; done) | (go_simp; rfl))
     intro gb233 hg w38 hbox hb
     have BK233 := Aside0.mk (hbox)
     have GW233 := Aside0.mk ((by rw [hg]; exact (below_size HB.out) : w.heap.size ≤ gb233))
     have GE233 := Aside0.mk ((by rw [hg]; exact (below_size HB.out) : w.heap.size ≤ gb233))
     have NB232_233 := Aside0.mk ((by rw [hg]; exact Nat.ne_of_lt (blk_lt BK232.out) : gb232 ≠ gb233))
     have NB233_232 := Aside0.mk ((by rw [hg]; exact Nat.ne_of_gt (blk_lt BK232.out) : gb233 ≠ gb232))
     have NB234_233 := Aside0.mk ((by rw [hg]; exact Nat.ne_of_lt (blk_lt BK234.out) : gb234 ≠ gb233))
     have NB233_234 := Aside0.mk ((by rw [hg]; exact Nat.ne_of_gt (blk_lt BK234.out) : gb233 ≠ gb234))
     replace HO198 := Aside0.mk (Kd.V_below (Kd.V_elderB HO198.out gb233 (Nat.le_of_eq hg.symm)) hb)
     replace HO203 := Aside0.mk (Kd.V_below (Kd.V_elderB HO203.out gb233 (Nat.le_of_eq hg.symm)) hb)
     replace HO214 := Aside0.mk (Kd.V_below (Kd.V_elderB HO214.out gb233 (Nat.le_of_eq hg.symm)) hb)
     replace HO225 := Aside0.mk (Kd.V_below (Kd.V_elderB HO225.out gb233 (Nat.le_of_eq hg.symm)) hb)
     replace BK232 := Aside0.mk (blk_below BK232.out hb)
     replace BK234 := Aside0.mk (blk_below BK234.out hb)
     replace HB := Aside0.mk (below_step HB.out hb)
     clear hb hbox hg
     refine hK.out _ _ trivial (fun hHeld => ?_)
     clear hK K
     refine norm_ (a' := ?_) ?_ ?_
     rotate_left
     · show Act.put _ (some 12) _ = _
       simp only [Act.put, sA_, sB_, sC_, i64_w, i32_w]
       rfl
     exact norm_ (by rfl) (hJ13_14_15 (gb232, gb233, gb234) _ ⟨Kd.V_mono HO198.out (fun _ hk => ⟨hk.1.1, ⟨hk.2, hk.1.2⟩⟩), Kd.V_mono HO203.out (fun _ hk => ⟨hk.1.1, ⟨hk.2, hk.1.2⟩⟩), Kd.V_mono HO214.out (fun _ hk => ⟨hk.1.1, ⟨hk.2, hk.1.2⟩⟩), Kd.V_mono HO225.out (fun _ hk => ⟨hk.1.1, ⟨hk.2, hk.1.2⟩⟩), BK232.out, BK233.out, BK234.out, GW232.out, GE232.out, NB233_232.out, NB232_233.out, NB234_232.out, NB232_234.out, GW233.out, GE233.out, NB234_233.out, NB233_234.out, GW234.out, GE234.out, HB.out⟩)
   intro hJ13_15
   refine join_ (σ := Nat × Nat) 7 (ra_ [3, 1, 4, 1, 3, 2, 2, 3]) (fun s_ => [(12, .pointer (some ⟨s_.1, 0, none⟩)), (13, .pointer (some ⟨s_.2, 0, none⟩))]) (fun s_ w' => (Kd.V k33 33 w' w.heap.size (fun k_ => k_ ≠ s_.1 ∧ k_ ≠ s_.2) (.slice Ao30 t196.length co30) t196) ∧ (Kd.V k33 33 w' w.heap.size (fun k_ => k_ ≠ s_.1 ∧ k_ ≠ s_.2) (.slice Ao30 y199.length co30) y199) ∧ (Kd.V k33 33 w' w.heap.size (fun k_ => k_ ≠ s_.1 ∧ k_ ≠ s_.2) (.slice A33 y210.length c33) y210) ∧ (Kd.V k33 33 w' w.heap.size (fun k_ => k_ ≠ s_.1 ∧ k_ ≠ s_.2) (.slice A34 y221.length c34) y221) ∧ (w'.heap[s_.1]? = some Z6_) ∧ (w'.heap[s_.2]? = some Z6_) ∧ (w.heap.size ≤ s_.1) ∧ (w.heap.size ≤ s_.1) ∧ (s_.2 ≠ s_.1) ∧ (s_.1 ≠ s_.2) ∧ (w.heap.size ≤ s_.2) ∧ (w.heap.size ≤ s_.2) ∧ (Below w.heap.size w w')) ?_ ?_
   rotate_left
   rotate_left
   · skip
     rintro ⟨gb233, gb234⟩ w37 ⟨h0_, h1_, h2_, h3_, h4_, h5_, h6_, h7_, h8_, h9_, h10_, h11_, h12_⟩
     have HO203 : Aside0 (Kd.V k33 33 w37 w.heap.size (fun k_ => k_ ≠ gb233 ∧ k_ ≠ gb234) (.slice Ao30 y199.length co30) y199) := ⟨h1_⟩
     have HO214 : Aside0 (Kd.V k33 33 w37 w.heap.size (fun k_ => k_ ≠ gb233 ∧ k_ ≠ gb234) (.slice A33 y210.length c33) y210) := ⟨h2_⟩
     have HO225 : Aside0 (Kd.V k33 33 w37 w.heap.size (fun k_ => k_ ≠ gb233 ∧ k_ ≠ gb234) (.slice A34 y221.length c34) y221) := ⟨h3_⟩
     have BK233 : Aside0 (w37.heap[gb233]? = some Z6_) := ⟨h4_⟩
     have BK234 : Aside0 (w37.heap[gb234]? = some Z6_) := ⟨h5_⟩
     have GW233 : Aside0 (w.heap.size ≤ gb233) := ⟨h6_⟩
     have GE233 : Aside0 (w.heap.size ≤ gb233) := ⟨h7_⟩
     have NB234_233 : Aside0 (gb234 ≠ gb233) := ⟨h8_⟩
     have NB233_234 : Aside0 (gb233 ≠ gb234) := ⟨h9_⟩
     have GW234 : Aside0 (w.heap.size ≤ gb234) := ⟨h10_⟩
     have GE234 : Aside0 (w.heap.size ≤ gb234) := ⟨h11_⟩
     replace HO198 : Aside0 (Kd.V k33 33 w37 w.heap.size (fun k_ => k_ ≠ gb233 ∧ k_ ≠ gb234) (.slice Ao30 t196.length co30) t196) := ⟨h0_⟩
     replace HB : Aside0 (Below w.heap.size w w37) := ⟨h12_⟩
     clear h0_ h1_ h2_ h3_ h4_ h5_ h6_ h7_ h8_ h9_ h10_ h11_ h12_
     have hHeld := trivial
     refine norm_ (a' := ?_) ?_ ?_
     rotate_left
     · simp only [putAll, Act.put, sA_, sB_, sC_]
       rfl
     refine two_ (i := 3) (j := 13) (Ni := some 36) (Nj := some 11) (ra_ [8, 1, 3, 2, 2, 3]) (ra_ [3, 1, 4, 1, 3, 1, 3, 3]) rfl rfl rfl rfl (two_of HT_.out (by kernel_rfl)) (by decide) (by decide) (fun K hK => ?_) (fun K hK => ?_)
     · skip
       refine goes_ Try.func29 (by kernel_rfl) rfl #[.slice Ao30 y199.length co30] (by rfl) rfl rfl (by (try simp only [List.map_toArray, List.map_cons, List.map_nil]); first | done | rfl | (simp only [List.length_drop, List.length_take]; rfl)) ?_
       with_reducible refine (agg_Of.calls k _ _ y199 t204 t205 t206 t207 t208 t209 _ ?side1 ?side2 A11.out).mono ?_
       (case side1 => repeat (first | exact (Kd.V_reads' HO203.out).2.2 | (with_reducible refine Kd.C_alloc ?_ _) | (with_reducible refine Kd.C_drewN ?_ _) | (with_reducible refine Kd.C_drew ?_)))
       (case side2 => exact (Kd.V_reads' HO203.out).2.1)
       rintro e w38 ⟨rfl, hb⟩
       refine ⟨_, rfl, ?_⟩
       replace HO198 := Aside0.mk (Kd.V_below HO198.out hb)
       replace HO203 := Aside0.mk (Kd.V_below HO203.out hb)
       replace HO214 := Aside0.mk (Kd.V_below HO214.out hb)
       replace HO225 := Aside0.mk (Kd.V_below HO225.out hb)
       replace BK233 := Aside0.mk (blk_below BK233.out hb)
       replace BK234 := Aside0.mk (blk_below BK234.out hb)
       replace HB := Aside0.mk (below_step HB.out hb)
       (try clear hb)
       (try clear hb2)
       (try clear hk)
       (try clear hi)
       refine hK.out _ _ trivial (fun hHeld => ?_)
       clear hK K
       refine norm_ (a' := ?_) ?_ ?_
       rotate_left
       · show Act.put _ (some 36) _ = _
         simp only [Act.put, sA_, sB_, sC_, i64_w, i32_w]
         rfl
       exact norm_ (by rfl) (hJ3_14_15 (gb233, gb234) _ ⟨HO198.out, HO203.out, HO214.out, HO225.out, BK233.out, BK234.out, GW233.out, GE233.out, NB234_233.out, NB233_234.out, GW234.out, GE234.out, HB.out⟩)
     skip
     refine box_step ?hg (N := 11) ?hd (cs := #[.int .i64 0, .int .i64 0, .int .i64 0, .int .i64 0, .int .i64 0, .int .i64 0]) (t := 50) ?hr ?_; (case hd => rfl); (case hg => rfl); (case hr => first | (go_simp; done) | (go_simp; rfl))
     intro gb232 hg w38 hbox hb
     have BK232 := Aside0.mk (hbox)
     have GW232 := Aside0.mk ((by rw [hg]; exact (below_size HB.out) : w.heap.size ≤ gb232))
     have GE232 := Aside0.mk ((by rw [hg]; exact (below_size HB.out) : w.heap.size ≤ gb232))
     have NB233_232 := Aside0.mk ((by rw [hg]; exact Nat.ne_of_lt (blk_lt BK233.out) : gb233 ≠ gb232))
     have NB232_233 := Aside0.mk ((by rw [hg]; exact Nat.ne_of_gt (blk_lt BK233.out) : gb232 ≠ gb233))
     have NB234_232 := Aside0.mk ((by rw [hg]; exact Nat.ne_of_lt (blk_lt BK234.out) : gb234 ≠ gb232))
     have NB232_234 := Aside0.mk ((by rw [hg]; exact Nat.ne_of_gt (blk_lt BK234.out) : gb232 ≠ gb234))
     replace HO198 := Aside0.mk (Kd.V_below (Kd.V_elderB HO198.out gb232 (Nat.le_of_eq hg.symm)) hb)
     replace HO203 := Aside0.mk (Kd.V_below (Kd.V_elderB HO203.out gb232 (Nat.le_of_eq hg.symm)) hb)
     replace HO214 := Aside0.mk (Kd.V_below (Kd.V_elderB HO214.out gb232 (Nat.le_of_eq hg.symm)) hb)
     replace HO225 := Aside0.mk (Kd.V_below (Kd.V_elderB HO225.out gb232 (Nat.le_of_eq hg.symm)) hb)
     replace BK233 := Aside0.mk (blk_below BK233.out hb)
     replace BK234 := Aside0.mk (blk_below BK234.out hb)
     replace HB := Aside0.mk (below_step HB.out hb)
     clear hb hbox hg
     refine hK.out _ _ trivial (fun hHeld => ?_)
     clear hK K
     refine norm_ (a' := ?_) ?_ ?_
     rotate_left
     · show Act.put _ (some 11) _ = _
       simp only [Act.put, sA_, sB_, sC_, i64_w, i32_w]
       rfl
     exact norm_ (by rfl) (hJ13_14_15 (gb232, gb233, gb234) _ ⟨Kd.V_mono HO198.out (fun _ hk => ⟨hk.2, ⟨hk.1.1, hk.1.2⟩⟩), Kd.V_mono HO203.out (fun _ hk => ⟨hk.2, ⟨hk.1.1, hk.1.2⟩⟩), Kd.V_mono HO214.out (fun _ hk => ⟨hk.2, ⟨hk.1.1, hk.1.2⟩⟩), Kd.V_mono HO225.out (fun _ hk => ⟨hk.2, ⟨hk.1.1, hk.1.2⟩⟩), BK232.out, BK233.out, BK234.out, GW232.out, GE232.out, NB233_232.out, NB232_233.out, NB234_232.out, NB232_234.out, GW233.out, GE233.out, NB234_233.out, NB233_234.out, GW234.out, GE234.out, HB.out⟩)
   intro hJ14_15
   refine join_ (σ := Unit) 8 (ra_ [8, 1, 3, 7]) (fun s_ => [(36, .agg #[.int .i64 t204, .int .i64 t205, .int .i64 t206, .int .i64 t207, .int .i64 t208, .int .i64 t209])]) (fun s_ w' => (Kd.V k33 33 w' w.heap.size (fun _ => True) (.slice Ao30 t196.length co30) t196) ∧ (Kd.V k33 33 w' w.heap.size (fun _ => True) (.slice Ao30 y199.length co30) y199) ∧ (Kd.V k33 33 w' w.heap.size (fun _ => True) (.slice A33 y210.length c33) y210) ∧ (Kd.V k33 33 w' w.heap.size (fun _ => True) (.slice A34 y221.length c34) y221) ∧ (Below w.heap.size w w')) ?_ ?_
   rotate_left
   rotate_left
   · skip
     rintro _ w36 ⟨h0_, h1_, h2_, h3_, h4_⟩
     have HO203 : Aside0 (Kd.V k33 33 w36 w.heap.size (fun _ => True) (.slice Ao30 y199.length co30) y199) := ⟨h1_⟩
     have HO214 : Aside0 (Kd.V k33 33 w36 w.heap.size (fun _ => True) (.slice A33 y210.length c33) y210) := ⟨h2_⟩
     have HO225 : Aside0 (Kd.V k33 33 w36 w.heap.size (fun _ => True) (.slice A34 y221.length c34) y221) := ⟨h3_⟩
     replace HO198 : Aside0 (Kd.V k33 33 w36 w.heap.size (fun _ => True) (.slice Ao30 t196.length co30) t196) := ⟨h0_⟩
     replace HB : Aside0 (Below w.heap.size w w36) := ⟨h4_⟩
     clear h0_ h1_ h2_ h3_ h4_
     have hHeld := trivial
     refine norm_ (a' := ?_) ?_ ?_
     rotate_left
     · simp only [putAll, Act.put, sA_, sB_, sC_]
       rfl
     refine four_ (i := 8) (j := 13) (k := 14) (m := 15) (Ni := some 41) (Nj := some 11) (Nk := some 12) (Nm := some 13) (ra_ [12, 7]) (ra_ [8, 1, 3, 1, 1, 5]) (ra_ [8, 1, 3, 2, 1, 4]) (ra_ [8, 1, 3, 3, 1, 3]) rfl rfl rfl rfl rfl rfl rfl rfl (four_of HT_.out (by kernel_rfl)) (by decide) (by decide) (by decide) (by decide) (fun K hK => ?_) (fun K hK => ?_) (fun K hK => ?_) (fun K hK => ?_)
     · skip
       refine goes_ Try.func29 (by kernel_rfl) rfl #[.slice A33 y210.length c33] (by rfl) rfl rfl (by (try simp only [List.map_toArray, List.map_cons, List.map_nil]); first | done | rfl | (simp only [List.length_drop, List.length_take]; rfl)) ?_
       with_reducible refine (agg_Of.calls k _ _ y210 t215 t216 t217 t218 t219 t220 _ ?side1 ?side2 A15.out).mono ?_
       (case side1 => repeat (first | exact (Kd.V_reads' HO214.out).2.2 | (with_reducible refine Kd.C_alloc ?_ _) | (with_reducible refine Kd.C_drewN ?_ _) | (with_reducible refine Kd.C_drew ?_)))
       (case side2 => exact (Kd.V_reads' HO214.out).2.1)
       rintro e w37 ⟨rfl, hb⟩
       refine ⟨_, rfl, ?_⟩
       replace HO198 := Aside0.mk (Kd.V_below HO198.out hb)
       replace HO203 := Aside0.mk (Kd.V_below HO203.out hb)
       replace HO214 := Aside0.mk (Kd.V_below HO214.out hb)
       replace HO225 := Aside0.mk (Kd.V_below HO225.out hb)
       replace HB := Aside0.mk (below_step HB.out hb)
       (try clear hb)
       (try clear hb2)
       (try clear hk)
       (try clear hi)
       refine hK.out _ _ trivial (fun hHeld => ?_)
       clear hK K
       refine norm_ (a' := ?_) ?_ ?_
       rotate_left
       · show Act.put _ (some 41) _ = _
         simp only [Act.put, sA_, sB_, sC_, i64_w, i32_w]
         rfl
       exact norm_ (by rfl) (hJ3_8 () _ ⟨HO198.out, HO203.out, HO214.out, HO225.out, HB.out⟩)
     · skip
       refine box_step ?hg (N := 11) ?hd (cs := #[.int .i64 0, .int .i64 0, .int .i64 0, .int .i64 0, .int .i64 0, .int .i64 0]) (t := 50) ?hr ?_; (case hd => rfl); (case hg => rfl); (case hr => first | (go_simp; done) | (go_simp; rfl))
       intro gb232 hg w37 hbox hb
       have BK232 := Aside0.mk (hbox)
       have GW232 := Aside0.mk ((by rw [hg]; exact (below_size HB.out) : w.heap.size ≤ gb232))
       have GE232 := Aside0.mk ((by rw [hg]; exact (below_size HB.out) : w.heap.size ≤ gb232))
       replace HO198 := Aside0.mk (Kd.V_below (Kd.V_elderB HO198.out gb232 (Nat.le_of_eq hg.symm)) hb)
       replace HO203 := Aside0.mk (Kd.V_below (Kd.V_elderB HO203.out gb232 (Nat.le_of_eq hg.symm)) hb)
       replace HO214 := Aside0.mk (Kd.V_below (Kd.V_elderB HO214.out gb232 (Nat.le_of_eq hg.symm)) hb)
       replace HO225 := Aside0.mk (Kd.V_below (Kd.V_elderB HO225.out gb232 (Nat.le_of_eq hg.symm)) hb)
       replace HB := Aside0.mk (below_step HB.out hb)
       clear hb hbox hg
       refine hK.out _ _ trivial (fun hHeld => ?_)
       clear hK K
       refine norm_ (a' := ?_) ?_ ?_
       rotate_left
       · show Act.put _ (some 11) _ = _
         simp only [Act.put, sA_, sB_, sC_, i64_w, i32_w]
         rfl
       exact norm_ (by rfl) (hJ3_13 (gb232) _ ⟨Kd.V_mono HO198.out (fun _ hk => hk.2), Kd.V_mono HO203.out (fun _ hk => hk.2), Kd.V_mono HO214.out (fun _ hk => hk.2), Kd.V_mono HO225.out (fun _ hk => hk.2), BK232.out, GW232.out, GE232.out, HB.out⟩)
     · skip
       refine box_step ?hg (N := 12) ?hd (cs := #[.int .i64 0, .int .i64 0, .int .i64 0, .int .i64 0, .int .i64 0, .int .i64 0]) (t := 50) ?hr ?_; (case hd => rfl); (case hg => rfl); (case hr => first | (go_simp; done) | (go_simp; rfl))
       intro gb233 hg w37 hbox hb
       have BK233 := Aside0.mk (hbox)
       have GW233 := Aside0.mk ((by rw [hg]; exact (below_size HB.out) : w.heap.size ≤ gb233))
       have GE233 := Aside0.mk ((by rw [hg]; exact (below_size HB.out) : w.heap.size ≤ gb233))
       replace HO198 := Aside0.mk (Kd.V_below (Kd.V_elderB HO198.out gb233 (Nat.le_of_eq hg.symm)) hb)
       replace HO203 := Aside0.mk (Kd.V_below (Kd.V_elderB HO203.out gb233 (Nat.le_of_eq hg.symm)) hb)
       replace HO214 := Aside0.mk (Kd.V_below (Kd.V_elderB HO214.out gb233 (Nat.le_of_eq hg.symm)) hb)
       replace HO225 := Aside0.mk (Kd.V_below (Kd.V_elderB HO225.out gb233 (Nat.le_of_eq hg.symm)) hb)
       replace HB := Aside0.mk (below_step HB.out hb)
       clear hb hbox hg
       refine hK.out _ _ trivial (fun hHeld => ?_)
       clear hK K
       refine norm_ (a' := ?_) ?_ ?_
       rotate_left
       · show Act.put _ (some 12) _ = _
         simp only [Act.put, sA_, sB_, sC_, i64_w, i32_w]
         rfl
       exact norm_ (by rfl) (hJ3_14 (gb233) _ ⟨Kd.V_mono HO198.out (fun _ hk => hk.2), Kd.V_mono HO203.out (fun _ hk => hk.2), Kd.V_mono HO214.out (fun _ hk => hk.2), Kd.V_mono HO225.out (fun _ hk => hk.2), BK233.out, GW233.out, GE233.out, HB.out⟩)
     skip
     refine box_step ?hg (N := 13) ?hd (cs := #[.int .i64 0, .int .i64 0, .int .i64 0, .int .i64 0, .int .i64 0, .int .i64 0]) (t := 50) ?hr ?_; (case hd => rfl); (case hg => rfl); (case hr => first | (go_simp; done) | (go_simp; rfl))
     intro gb234 hg w37 hbox hb
     have BK234 := Aside0.mk (hbox)
     have GW234 := Aside0.mk ((by rw [hg]; exact (below_size HB.out) : w.heap.size ≤ gb234))
     have GE234 := Aside0.mk ((by rw [hg]; exact (below_size HB.out) : w.heap.size ≤ gb234))
     replace HO198 := Aside0.mk (Kd.V_below (Kd.V_elderB HO198.out gb234 (Nat.le_of_eq hg.symm)) hb)
     replace HO203 := Aside0.mk (Kd.V_below (Kd.V_elderB HO203.out gb234 (Nat.le_of_eq hg.symm)) hb)
     replace HO214 := Aside0.mk (Kd.V_below (Kd.V_elderB HO214.out gb234 (Nat.le_of_eq hg.symm)) hb)
     replace HO225 := Aside0.mk (Kd.V_below (Kd.V_elderB HO225.out gb234 (Nat.le_of_eq hg.symm)) hb)
     replace HB := Aside0.mk (below_step HB.out hb)
     clear hb hbox hg
     refine hK.out _ _ trivial (fun hHeld => ?_)
     clear hK K
     refine norm_ (a' := ?_) ?_ ?_
     rotate_left
     · show Act.put _ (some 13) _ = _
       simp only [Act.put, sA_, sB_, sC_, i64_w, i32_w]
       rfl
     exact norm_ (by rfl) (hJ3_15 (gb234) _ ⟨Kd.V_mono HO198.out (fun _ hk => hk.2), Kd.V_mono HO203.out (fun _ hk => hk.2), Kd.V_mono HO214.out (fun _ hk => hk.2), Kd.V_mono HO225.out (fun _ hk => hk.2), BK234.out, GW234.out, GE234.out, HB.out⟩)
   intro hJ3
   refine join_ (σ := Nat) 8 (ra_ [3, 1, 4, 1, 3, 1, 1, 5]) (fun s_ => [(11, .pointer (some ⟨s_, 0, none⟩))]) (fun s_ w' => (Kd.V k33 33 w' w.heap.size (fun k_ => k_ ≠ s_) (.slice Ao30 t196.length co30) t196) ∧ (Kd.V k33 33 w' w.heap.size (fun k_ => k_ ≠ s_) (.slice Ao30 y199.length co30) y199) ∧ (Kd.V k33 33 w' w.heap.size (fun k_ => k_ ≠ s_) (.slice A33 y210.length c33) y210) ∧ (Kd.V k33 33 w' w.heap.size (fun k_ => k_ ≠ s_) (.slice A34 y221.length c34) y221) ∧ (w'.heap[s_]? = some Z6_) ∧ (w.heap.size ≤ s_) ∧ (w.heap.size ≤ s_) ∧ (Below w.heap.size w w')) ?_ ?_
   rotate_left
   rotate_left
   · skip
     rintro gb232 w36 ⟨h0_, h1_, h2_, h3_, h4_, h5_, h6_, h7_⟩
     have HO203 : Aside0 (Kd.V k33 33 w36 w.heap.size (fun k_ => k_ ≠ gb232) (.slice Ao30 y199.length co30) y199) := ⟨h1_⟩
     have HO214 : Aside0 (Kd.V k33 33 w36 w.heap.size (fun k_ => k_ ≠ gb232) (.slice A33 y210.length c33) y210) := ⟨h2_⟩
     have HO225 : Aside0 (Kd.V k33 33 w36 w.heap.size (fun k_ => k_ ≠ gb232) (.slice A34 y221.length c34) y221) := ⟨h3_⟩
     have BK232 : Aside0 (w36.heap[gb232]? = some Z6_) := ⟨h4_⟩
     have GW232 : Aside0 (w.heap.size ≤ gb232) := ⟨h5_⟩
     have GE232 : Aside0 (w.heap.size ≤ gb232) := ⟨h6_⟩
     replace HO198 : Aside0 (Kd.V k33 33 w36 w.heap.size (fun k_ => k_ ≠ gb232) (.slice Ao30 t196.length co30) t196) := ⟨h0_⟩
     replace HB : Aside0 (Below w.heap.size w w36) := ⟨h7_⟩
     clear h0_ h1_ h2_ h3_ h4_ h5_ h6_ h7_
     have hHeld := trivial
     refine norm_ (a' := ?_) ?_ ?_
     rotate_left
     · simp only [putAll, Act.put, sA_, sB_, sC_]
       rfl
     refine three_ (i := 3) (j := 14) (k := 15) (Ni := some 36) (Nj := some 12) (Nk := some 13) (ra_ [8, 1, 3, 1, 1, 5]) (ra_ [3, 1, 4, 1, 3, 1, 2, 4]) (ra_ [3, 1, 4, 1, 3, 1, 1, 1, 1, 3]) rfl rfl rfl rfl rfl rfl (three_of HT_.out (by kernel_rfl)) (by decide) (by decide) (by decide) (fun K hK => ?_) (fun K hK => ?_) (fun K hK => ?_)
     · skip
       refine goes_ Try.func29 (by kernel_rfl) rfl #[.slice Ao30 y199.length co30] (by rfl) rfl rfl (by (try simp only [List.map_toArray, List.map_cons, List.map_nil]); first | done | rfl | (simp only [List.length_drop, List.length_take]; rfl)) ?_
       with_reducible refine (agg_Of.calls k _ _ y199 t204 t205 t206 t207 t208 t209 _ ?side1 ?side2 A11.out).mono ?_
       (case side1 => repeat (first | exact (Kd.V_reads' HO203.out).2.2 | (with_reducible refine Kd.C_alloc ?_ _) | (with_reducible refine Kd.C_drewN ?_ _) | (with_reducible refine Kd.C_drew ?_)))
       (case side2 => exact (Kd.V_reads' HO203.out).2.1)
       rintro e w37 ⟨rfl, hb⟩
       refine ⟨_, rfl, ?_⟩
       replace HO198 := Aside0.mk (Kd.V_below HO198.out hb)
       replace HO203 := Aside0.mk (Kd.V_below HO203.out hb)
       replace HO214 := Aside0.mk (Kd.V_below HO214.out hb)
       replace HO225 := Aside0.mk (Kd.V_below HO225.out hb)
       replace BK232 := Aside0.mk (blk_below BK232.out hb)
       replace HB := Aside0.mk (below_step HB.out hb)
       (try clear hb)
       (try clear hb2)
       (try clear hk)
       (try clear hi)
       refine hK.out _ _ trivial (fun hHeld => ?_)
       clear hK K
       refine norm_ (a' := ?_) ?_ ?_
       rotate_left
       · show Act.put _ (some 36) _ = _
         simp only [Act.put, sA_, sB_, sC_, i64_w, i32_w]
         rfl
       exact norm_ (by rfl) (hJ3_13 (gb232) _ ⟨HO198.out, HO203.out, HO214.out, HO225.out, BK232.out, GW232.out, GE232.out, HB.out⟩)
     · skip
       refine box_step ?hg (N := 12) ?hd (cs := #[.int .i64 0, .int .i64 0, .int .i64 0, .int .i64 0, .int .i64 0, .int .i64 0]) (t := 50) ?hr ?_; (case hd => rfl); (case hg => rfl); (case hr => first | (go_simp; done) | (go_simp; rfl))
       intro gb233 hg w37 hbox hb
       have BK233 := Aside0.mk (hbox)
       have GW233 := Aside0.mk ((by rw [hg]; exact (below_size HB.out) : w.heap.size ≤ gb233))
       have GE233 := Aside0.mk ((by rw [hg]; exact (below_size HB.out) : w.heap.size ≤ gb233))
       have NB232_233 := Aside0.mk ((by rw [hg]; exact Nat.ne_of_lt (blk_lt BK232.out) : gb232 ≠ gb233))
       have NB233_232 := Aside0.mk ((by rw [hg]; exact Nat.ne_of_gt (blk_lt BK232.out) : gb233 ≠ gb232))
       replace HO198 := Aside0.mk (Kd.V_below (Kd.V_elderB HO198.out gb233 (Nat.le_of_eq hg.symm)) hb)
       replace HO203 := Aside0.mk (Kd.V_below (Kd.V_elderB HO203.out gb233 (Nat.le_of_eq hg.symm)) hb)
       replace HO214 := Aside0.mk (Kd.V_below (Kd.V_elderB HO214.out gb233 (Nat.le_of_eq hg.symm)) hb)
       replace HO225 := Aside0.mk (Kd.V_below (Kd.V_elderB HO225.out gb233 (Nat.le_of_eq hg.symm)) hb)
       replace BK232 := Aside0.mk (blk_below BK232.out hb)
       replace HB := Aside0.mk (below_step HB.out hb)
       clear hb hbox hg
       refine hK.out _ _ trivial (fun hHeld => ?_)
       clear hK K
       refine norm_ (a' := ?_) ?_ ?_
       rotate_left
       · show Act.put _ (some 12) _ = _
         simp only [Act.put, sA_, sB_, sC_, i64_w, i32_w]
         rfl
       exact norm_ (by rfl) (hJ13_14 (gb232, gb233) _ ⟨HO198.out, HO203.out, HO214.out, HO225.out, BK232.out, BK233.out, GW232.out, GE232.out, NB233_232.out, NB232_233.out, GW233.out, GE233.out, HB.out⟩)
     skip
     refine box_step ?hg (N := 13) ?hd (cs := #[.int .i64 0, .int .i64 0, .int .i64 0, .int .i64 0, .int .i64 0, .int .i64 0]) (t := 50) ?hr ?_; (case hd => rfl); (case hg => rfl); (case hr => first | (go_simp; done) | (go_simp; rfl))
     intro gb234 hg w37 hbox hb
     have BK234 := Aside0.mk (hbox)
     have GW234 := Aside0.mk ((by rw [hg]; exact (below_size HB.out) : w.heap.size ≤ gb234))
     have GE234 := Aside0.mk ((by rw [hg]; exact (below_size HB.out) : w.heap.size ≤ gb234))
     have NB232_234 := Aside0.mk ((by rw [hg]; exact Nat.ne_of_lt (blk_lt BK232.out) : gb232 ≠ gb234))
     have NB234_232 := Aside0.mk ((by rw [hg]; exact Nat.ne_of_gt (blk_lt BK232.out) : gb234 ≠ gb232))
     replace HO198 := Aside0.mk (Kd.V_below (Kd.V_elderB HO198.out gb234 (Nat.le_of_eq hg.symm)) hb)
     replace HO203 := Aside0.mk (Kd.V_below (Kd.V_elderB HO203.out gb234 (Nat.le_of_eq hg.symm)) hb)
     replace HO214 := Aside0.mk (Kd.V_below (Kd.V_elderB HO214.out gb234 (Nat.le_of_eq hg.symm)) hb)
     replace HO225 := Aside0.mk (Kd.V_below (Kd.V_elderB HO225.out gb234 (Nat.le_of_eq hg.symm)) hb)
     replace BK232 := Aside0.mk (blk_below BK232.out hb)
     replace HB := Aside0.mk (below_step HB.out hb)
     clear hb hbox hg
     refine hK.out _ _ trivial (fun hHeld => ?_)
     clear hK K
     refine norm_ (a' := ?_) ?_ ?_
     rotate_left
     · show Act.put _ (some 13) _ = _
       simp only [Act.put, sA_, sB_, sC_, i64_w, i32_w]
       rfl
     exact norm_ (by rfl) (hJ13_15 (gb232, gb234) _ ⟨HO198.out, HO203.out, HO214.out, HO225.out, BK232.out, BK234.out, GW232.out, GE232.out, NB234_232.out, NB232_234.out, GW234.out, GE234.out, HB.out⟩)
   intro hJ13
   refine join_ (σ := Nat) 8 (ra_ [3, 1, 4, 1, 3, 2, 1, 4]) (fun s_ => [(12, .pointer (some ⟨s_, 0, none⟩))]) (fun s_ w' => (Kd.V k33 33 w' w.heap.size (fun k_ => k_ ≠ s_) (.slice Ao30 t196.length co30) t196) ∧ (Kd.V k33 33 w' w.heap.size (fun k_ => k_ ≠ s_) (.slice Ao30 y199.length co30) y199) ∧ (Kd.V k33 33 w' w.heap.size (fun k_ => k_ ≠ s_) (.slice A33 y210.length c33) y210) ∧ (Kd.V k33 33 w' w.heap.size (fun k_ => k_ ≠ s_) (.slice A34 y221.length c34) y221) ∧ (w'.heap[s_]? = some Z6_) ∧ (w.heap.size ≤ s_) ∧ (w.heap.size ≤ s_) ∧ (Below w.heap.size w w')) ?_ ?_
   rotate_left
   rotate_left
   · skip
     rintro gb233 w36 ⟨h0_, h1_, h2_, h3_, h4_, h5_, h6_, h7_⟩
     have HO203 : Aside0 (Kd.V k33 33 w36 w.heap.size (fun k_ => k_ ≠ gb233) (.slice Ao30 y199.length co30) y199) := ⟨h1_⟩
     have HO214 : Aside0 (Kd.V k33 33 w36 w.heap.size (fun k_ => k_ ≠ gb233) (.slice A33 y210.length c33) y210) := ⟨h2_⟩
     have HO225 : Aside0 (Kd.V k33 33 w36 w.heap.size (fun k_ => k_ ≠ gb233) (.slice A34 y221.length c34) y221) := ⟨h3_⟩
     have BK233 : Aside0 (w36.heap[gb233]? = some Z6_) := ⟨h4_⟩
     have GW233 : Aside0 (w.heap.size ≤ gb233) := ⟨h5_⟩
     have GE233 : Aside0 (w.heap.size ≤ gb233) := ⟨h6_⟩
     replace HO198 : Aside0 (Kd.V k33 33 w36 w.heap.size (fun k_ => k_ ≠ gb233) (.slice Ao30 t196.length co30) t196) := ⟨h0_⟩
     replace HB : Aside0 (Below w.heap.size w w36) := ⟨h7_⟩
     clear h0_ h1_ h2_ h3_ h4_ h5_ h6_ h7_
     have hHeld := trivial
     refine norm_ (a' := ?_) ?_ ?_
     rotate_left
     · simp only [putAll, Act.put, sA_, sB_, sC_]
       rfl
     refine three_ (i := 3) (j := 13) (k := 15) (Ni := some 36) (Nj := some 11) (Nk := some 13) (ra_ [8, 1, 3, 2, 1, 4]) (ra_ [3, 1, 4, 1, 3, 1, 2, 4]) (ra_ [3, 1, 4, 1, 3, 2, 2, 3]) rfl rfl rfl rfl rfl rfl (three_of HT_.out (by kernel_rfl)) (by decide) (by decide) (by decide) (fun K hK => ?_) (fun K hK => ?_) (fun K hK => ?_)
     · skip
       refine goes_ Try.func29 (by kernel_rfl) rfl #[.slice Ao30 y199.length co30] (by rfl) rfl rfl (by (try simp only [List.map_toArray, List.map_cons, List.map_nil]); first | done | rfl | (simp only [List.length_drop, List.length_take]; rfl)) ?_
       with_reducible refine (agg_Of.calls k _ _ y199 t204 t205 t206 t207 t208 t209 _ ?side1 ?side2 A11.out).mono ?_
       (case side1 => repeat (first | exact (Kd.V_reads' HO203.out).2.2 | (with_reducible refine Kd.C_alloc ?_ _) | (with_reducible refine Kd.C_drewN ?_ _) | (with_reducible refine Kd.C_drew ?_)))
       (case side2 => exact (Kd.V_reads' HO203.out).2.1)
       rintro e w37 ⟨rfl, hb⟩
       refine ⟨_, rfl, ?_⟩
       replace HO198 := Aside0.mk (Kd.V_below HO198.out hb)
       replace HO203 := Aside0.mk (Kd.V_below HO203.out hb)
       replace HO214 := Aside0.mk (Kd.V_below HO214.out hb)
       replace HO225 := Aside0.mk (Kd.V_below HO225.out hb)
       replace BK233 := Aside0.mk (blk_below BK233.out hb)
       replace HB := Aside0.mk (below_step HB.out hb)
       (try clear hb)
       (try clear hb2)
       (try clear hk)
       (try clear hi)
       refine hK.out _ _ trivial (fun hHeld => ?_)
       clear hK K
       refine norm_ (a' := ?_) ?_ ?_
       rotate_left
       · show Act.put _ (some 36) _ = _
         simp only [Act.put, sA_, sB_, sC_, i64_w, i32_w]
         rfl
       exact norm_ (by rfl) (hJ3_14 (gb233) _ ⟨HO198.out, HO203.out, HO214.out, HO225.out, BK233.out, GW233.out, GE233.out, HB.out⟩)
     · skip
       refine box_step ?hg (N := 11) ?hd (cs := #[.int .i64 0, .int .i64 0, .int .i64 0, .int .i64 0, .int .i64 0, .int .i64 0]) (t := 50) ?hr ?_; (case hd => rfl); (case hg => rfl); (case hr => first | (go_simp; done) | (go_simp; rfl))
       intro gb232 hg w37 hbox hb
       have BK232 := Aside0.mk (hbox)
       have GW232 := Aside0.mk ((by rw [hg]; exact (below_size HB.out) : w.heap.size ≤ gb232))
       have GE232 := Aside0.mk ((by rw [hg]; exact (below_size HB.out) : w.heap.size ≤ gb232))
       have NB233_232 := Aside0.mk ((by rw [hg]; exact Nat.ne_of_lt (blk_lt BK233.out) : gb233 ≠ gb232))
       have NB232_233 := Aside0.mk ((by rw [hg]; exact Nat.ne_of_gt (blk_lt BK233.out) : gb232 ≠ gb233))
       replace HO198 := Aside0.mk (Kd.V_below (Kd.V_elderB HO198.out gb232 (Nat.le_of_eq hg.symm)) hb)
       replace HO203 := Aside0.mk (Kd.V_below (Kd.V_elderB HO203.out gb232 (Nat.le_of_eq hg.symm)) hb)
       replace HO214 := Aside0.mk (Kd.V_below (Kd.V_elderB HO214.out gb232 (Nat.le_of_eq hg.symm)) hb)
       replace HO225 := Aside0.mk (Kd.V_below (Kd.V_elderB HO225.out gb232 (Nat.le_of_eq hg.symm)) hb)
       replace BK233 := Aside0.mk (blk_below BK233.out hb)
       replace HB := Aside0.mk (below_step HB.out hb)
       clear hb hbox hg
       refine hK.out _ _ trivial (fun hHeld => ?_)
       clear hK K
       refine norm_ (a' := ?_) ?_ ?_
       rotate_left
       · show Act.put _ (some 11) _ = _
         simp only [Act.put, sA_, sB_, sC_, i64_w, i32_w]
         rfl
       exact norm_ (by rfl) (hJ13_14 (gb232, gb233) _ ⟨Kd.V_mono HO198.out (fun _ hk => ⟨hk.2, hk.1⟩), Kd.V_mono HO203.out (fun _ hk => ⟨hk.2, hk.1⟩), Kd.V_mono HO214.out (fun _ hk => ⟨hk.2, hk.1⟩), Kd.V_mono HO225.out (fun _ hk => ⟨hk.2, hk.1⟩), BK232.out, BK233.out, GW232.out, GE232.out, NB233_232.out, NB232_233.out, GW233.out, GE233.out, HB.out⟩)
     skip
     refine box_step ?hg (N := 13) ?hd (cs := #[.int .i64 0, .int .i64 0, .int .i64 0, .int .i64 0, .int .i64 0, .int .i64 0]) (t := 50) ?hr ?_; (case hd => rfl); (case hg => rfl); (case hr => first | (go_simp; done) | (go_simp; rfl))
     intro gb234 hg w37 hbox hb
     have BK234 := Aside0.mk (hbox)
     have GW234 := Aside0.mk ((by rw [hg]; exact (below_size HB.out) : w.heap.size ≤ gb234))
     have GE234 := Aside0.mk ((by rw [hg]; exact (below_size HB.out) : w.heap.size ≤ gb234))
     have NB233_234 := Aside0.mk ((by rw [hg]; exact Nat.ne_of_lt (blk_lt BK233.out) : gb233 ≠ gb234))
     have NB234_233 := Aside0.mk ((by rw [hg]; exact Nat.ne_of_gt (blk_lt BK233.out) : gb234 ≠ gb233))
     replace HO198 := Aside0.mk (Kd.V_below (Kd.V_elderB HO198.out gb234 (Nat.le_of_eq hg.symm)) hb)
     replace HO203 := Aside0.mk (Kd.V_below (Kd.V_elderB HO203.out gb234 (Nat.le_of_eq hg.symm)) hb)
     replace HO214 := Aside0.mk (Kd.V_below (Kd.V_elderB HO214.out gb234 (Nat.le_of_eq hg.symm)) hb)
     replace HO225 := Aside0.mk (Kd.V_below (Kd.V_elderB HO225.out gb234 (Nat.le_of_eq hg.symm)) hb)
     replace BK233 := Aside0.mk (blk_below BK233.out hb)
     replace HB := Aside0.mk (below_step HB.out hb)
     clear hb hbox hg
     refine hK.out _ _ trivial (fun hHeld => ?_)
     clear hK K
     refine norm_ (a' := ?_) ?_ ?_
     rotate_left
     · show Act.put _ (some 13) _ = _
       simp only [Act.put, sA_, sB_, sC_, i64_w, i32_w]
       rfl
     exact norm_ (by rfl) (hJ14_15 (gb233, gb234) _ ⟨HO198.out, HO203.out, HO214.out, HO225.out, BK233.out, BK234.out, GW233.out, GE233.out, NB234_233.out, NB233_234.out, GW234.out, GE234.out, HB.out⟩)
   intro hJ14
   refine join_ (σ := Nat) 8 (ra_ [3, 1, 4, 1, 3, 3, 1, 3]) (fun s_ => [(13, .pointer (some ⟨s_, 0, none⟩))]) (fun s_ w' => (Kd.V k33 33 w' w.heap.size (fun k_ => k_ ≠ s_) (.slice Ao30 t196.length co30) t196) ∧ (Kd.V k33 33 w' w.heap.size (fun k_ => k_ ≠ s_) (.slice Ao30 y199.length co30) y199) ∧ (Kd.V k33 33 w' w.heap.size (fun k_ => k_ ≠ s_) (.slice A33 y210.length c33) y210) ∧ (Kd.V k33 33 w' w.heap.size (fun k_ => k_ ≠ s_) (.slice A34 y221.length c34) y221) ∧ (w'.heap[s_]? = some Z6_) ∧ (w.heap.size ≤ s_) ∧ (w.heap.size ≤ s_) ∧ (Below w.heap.size w w')) ?_ ?_
   rotate_left
   · intro hJ15
     refine four_ (i := 3) (j := 13) (k := 14) (m := 15) (Ni := some 36) (Nj := some 11) (Nk := some 12) (Nm := some 13) (ra_ [8, 1, 3, 7]) (ra_ [3, 1, 4, 1, 3, 1, 1, 5]) (ra_ [3, 1, 4, 1, 3, 2, 1, 4]) (ra_ [3, 1, 4, 1, 3, 3, 1, 3]) rfl rfl rfl rfl rfl rfl rfl rfl (four_of HT_.out (by kernel_rfl)) (by decide) (by decide) (by decide) (by decide) (fun K hK => ?_) (fun K hK => ?_) (fun K hK => ?_) (fun K hK => ?_)
     · skip
       refine goes_ Try.func29 (by kernel_rfl) rfl #[.slice Ao30 y199.length co30] (by rfl) rfl rfl (by (try simp only [List.map_toArray, List.map_cons, List.map_nil]); first | done | rfl | (simp only [List.length_drop, List.length_take]; rfl)) ?_
       with_reducible refine (agg_Of.calls k _ _ y199 t204 t205 t206 t207 t208 t209 _ ?side1 ?side2 A11.out).mono ?_
       (case side1 => repeat (first | exact (Kd.V_reads' HO203.out).2.2 | (with_reducible refine Kd.C_alloc ?_ _) | (with_reducible refine Kd.C_drewN ?_ _) | (with_reducible refine Kd.C_drew ?_)))
       (case side2 => exact (Kd.V_reads' HO203.out).2.1)
       rintro e w35 ⟨rfl, hb⟩
       refine ⟨_, rfl, ?_⟩
       replace HO198 := Aside0.mk (Kd.V_below HO198.out hb)
       replace HO203 := Aside0.mk (Kd.V_below HO203.out hb)
       replace HO214 := Aside0.mk (Kd.V_below HO214.out hb)
       replace HO225 := Aside0.mk (Kd.V_below HO225.out hb)
       replace HB := Aside0.mk (below_step HB.out hb)
       (try clear hb)
       (try clear hb2)
       (try clear hk)
       (try clear hi)
       refine hK.out _ _ trivial (fun hHeld => ?_)
       clear hK K
       refine norm_ (a' := ?_) ?_ ?_
       rotate_left
       · show Act.put _ (some 36) _ = _
         simp only [Act.put, sA_, sB_, sC_, i64_w, i32_w]
         rfl
       exact norm_ (by rfl) (hJ3 () _ ⟨HO198.out, HO203.out, HO214.out, HO225.out, HB.out⟩)
     · skip
       refine box_step ?hg (N := 11) ?hd (cs := #[.int .i64 0, .int .i64 0, .int .i64 0, .int .i64 0, .int .i64 0, .int .i64 0]) (t := 50) ?hr ?_; (case hd => rfl); (case hg => rfl); (case hr => first | (go_simp; done) | (go_simp; rfl))
       intro gb232 hg w35 hbox hb
       have BK232 := Aside0.mk (hbox)
       have GW232 := Aside0.mk ((by rw [hg]; exact (below_size HB.out) : w.heap.size ≤ gb232))
       have GE232 := Aside0.mk ((by rw [hg]; exact (below_size HB.out) : w.heap.size ≤ gb232))
       replace HO198 := Aside0.mk (Kd.V_below (Kd.V_elderB HO198.out gb232 (Nat.le_of_eq hg.symm)) hb)
       replace HO203 := Aside0.mk (Kd.V_below (Kd.V_elderB HO203.out gb232 (Nat.le_of_eq hg.symm)) hb)
       replace HO214 := Aside0.mk (Kd.V_below (Kd.V_elderB HO214.out gb232 (Nat.le_of_eq hg.symm)) hb)
       replace HO225 := Aside0.mk (Kd.V_below (Kd.V_elderB HO225.out gb232 (Nat.le_of_eq hg.symm)) hb)
       replace HB := Aside0.mk (below_step HB.out hb)
       clear hb hbox hg
       refine hK.out _ _ trivial (fun hHeld => ?_)
       clear hK K
       refine norm_ (a' := ?_) ?_ ?_
       rotate_left
       · show Act.put _ (some 11) _ = _
         simp only [Act.put, sA_, sB_, sC_, i64_w, i32_w]
         rfl
       exact norm_ (by rfl) (hJ13 (gb232) _ ⟨Kd.V_mono HO198.out (fun _ hk => hk.2), Kd.V_mono HO203.out (fun _ hk => hk.2), Kd.V_mono HO214.out (fun _ hk => hk.2), Kd.V_mono HO225.out (fun _ hk => hk.2), BK232.out, GW232.out, GE232.out, HB.out⟩)
     · skip
       refine box_step ?hg (N := 12) ?hd (cs := #[.int .i64 0, .int .i64 0, .int .i64 0, .int .i64 0, .int .i64 0, .int .i64 0]) (t := 50) ?hr ?_; (case hd => rfl); (case hg => rfl); (case hr => first | (go_simp; done) | (go_simp; rfl))
       intro gb233 hg w35 hbox hb
       have BK233 := Aside0.mk (hbox)
       have GW233 := Aside0.mk ((by rw [hg]; exact (below_size HB.out) : w.heap.size ≤ gb233))
       have GE233 := Aside0.mk ((by rw [hg]; exact (below_size HB.out) : w.heap.size ≤ gb233))
       replace HO198 := Aside0.mk (Kd.V_below (Kd.V_elderB HO198.out gb233 (Nat.le_of_eq hg.symm)) hb)
       replace HO203 := Aside0.mk (Kd.V_below (Kd.V_elderB HO203.out gb233 (Nat.le_of_eq hg.symm)) hb)
       replace HO214 := Aside0.mk (Kd.V_below (Kd.V_elderB HO214.out gb233 (Nat.le_of_eq hg.symm)) hb)
       replace HO225 := Aside0.mk (Kd.V_below (Kd.V_elderB HO225.out gb233 (Nat.le_of_eq hg.symm)) hb)
       replace HB := Aside0.mk (below_step HB.out hb)
       clear hb hbox hg
       refine hK.out _ _ trivial (fun hHeld => ?_)
       clear hK K
       refine norm_ (a' := ?_) ?_ ?_
       rotate_left
       · show Act.put _ (some 12) _ = _
         simp only [Act.put, sA_, sB_, sC_, i64_w, i32_w]
         rfl
       exact norm_ (by rfl) (hJ14 (gb233) _ ⟨Kd.V_mono HO198.out (fun _ hk => hk.2), Kd.V_mono HO203.out (fun _ hk => hk.2), Kd.V_mono HO214.out (fun _ hk => hk.2), Kd.V_mono HO225.out (fun _ hk => hk.2), BK233.out, GW233.out, GE233.out, HB.out⟩)
     skip
     refine box_step ?hg (N := 13) ?hd (cs := #[.int .i64 0, .int .i64 0, .int .i64 0, .int .i64 0, .int .i64 0, .int .i64 0]) (t := 50) ?hr ?_; (case hd => rfl); (case hg => rfl); (case hr => first | (go_simp; done) | (go_simp; rfl))
     intro gb234 hg w35 hbox hb
     have BK234 := Aside0.mk (hbox)
     have GW234 := Aside0.mk ((by rw [hg]; exact (below_size HB.out) : w.heap.size ≤ gb234))
     have GE234 := Aside0.mk ((by rw [hg]; exact (below_size HB.out) : w.heap.size ≤ gb234))
     replace HO198 := Aside0.mk (Kd.V_below (Kd.V_elderB HO198.out gb234 (Nat.le_of_eq hg.symm)) hb)
     replace HO203 := Aside0.mk (Kd.V_below (Kd.V_elderB HO203.out gb234 (Nat.le_of_eq hg.symm)) hb)
     replace HO214 := Aside0.mk (Kd.V_below (Kd.V_elderB HO214.out gb234 (Nat.le_of_eq hg.symm)) hb)
     replace HO225 := Aside0.mk (Kd.V_below (Kd.V_elderB HO225.out gb234 (Nat.le_of_eq hg.symm)) hb)
     replace HB := Aside0.mk (below_step HB.out hb)
     clear hb hbox hg
     refine hK.out _ _ trivial (fun hHeld => ?_)
     clear hK K
     refine norm_ (a' := ?_) ?_ ?_
     rotate_left
     · show Act.put _ (some 13) _ = _
       simp only [Act.put, sA_, sB_, sC_, i64_w, i32_w]
       rfl
     exact norm_ (by rfl) (hJ15 (gb234) _ ⟨Kd.V_mono HO198.out (fun _ hk => hk.2), Kd.V_mono HO203.out (fun _ hk => hk.2), Kd.V_mono HO214.out (fun _ hk => hk.2), Kd.V_mono HO225.out (fun _ hk => hk.2), BK234.out, GW234.out, GE234.out, HB.out⟩)
   skip
   rintro gb234 w36 ⟨h0_, h1_, h2_, h3_, h4_, h5_, h6_, h7_⟩
   have HO203 : Aside0 (Kd.V k33 33 w36 w.heap.size (fun k_ => k_ ≠ gb234) (.slice Ao30 y199.length co30) y199) := ⟨h1_⟩
   have HO214 : Aside0 (Kd.V k33 33 w36 w.heap.size (fun k_ => k_ ≠ gb234) (.slice A33 y210.length c33) y210) := ⟨h2_⟩
   have HO225 : Aside0 (Kd.V k33 33 w36 w.heap.size (fun k_ => k_ ≠ gb234) (.slice A34 y221.length c34) y221) := ⟨h3_⟩
   have BK234 : Aside0 (w36.heap[gb234]? = some Z6_) := ⟨h4_⟩
   have GW234 : Aside0 (w.heap.size ≤ gb234) := ⟨h5_⟩
   have GE234 : Aside0 (w.heap.size ≤ gb234) := ⟨h6_⟩
   replace HO198 : Aside0 (Kd.V k33 33 w36 w.heap.size (fun k_ => k_ ≠ gb234) (.slice Ao30 t196.length co30) t196) := ⟨h0_⟩
   replace HB : Aside0 (Below w.heap.size w w36) := ⟨h7_⟩
   clear h0_ h1_ h2_ h3_ h4_ h5_ h6_ h7_
   have hHeld := trivial
   refine norm_ (a' := ?_) ?_ ?_
   rotate_left
   · simp only [putAll, Act.put, sA_, sB_, sC_]
     rfl
   refine three_ (i := 3) (j := 13) (k := 14) (Ni := some 36) (Nj := some 11) (Nk := some 12) (ra_ [8, 1, 3, 3, 1, 3]) (ra_ [3, 1, 4, 1, 3, 1, 1, 1, 1, 3]) (ra_ [3, 1, 4, 1, 3, 2, 2, 3]) rfl rfl rfl rfl rfl rfl (three_of HT_.out (by kernel_rfl)) (by decide) (by decide) (by decide) (fun K hK => ?_) (fun K hK => ?_) (fun K hK => ?_)
   · skip
     refine goes_ Try.func29 (by kernel_rfl) rfl #[.slice Ao30 y199.length co30] (by rfl) rfl rfl (by (try simp only [List.map_toArray, List.map_cons, List.map_nil]); first | done | rfl | (simp only [List.length_drop, List.length_take]; rfl)) ?_
     with_reducible refine (agg_Of.calls k _ _ y199 t204 t205 t206 t207 t208 t209 _ ?side1 ?side2 A11.out).mono ?_
     (case side1 => repeat (first | exact (Kd.V_reads' HO203.out).2.2 | (with_reducible refine Kd.C_alloc ?_ _) | (with_reducible refine Kd.C_drewN ?_ _) | (with_reducible refine Kd.C_drew ?_)))
     (case side2 => exact (Kd.V_reads' HO203.out).2.1)
     rintro e w37 ⟨rfl, hb⟩
     refine ⟨_, rfl, ?_⟩
     replace HO198 := Aside0.mk (Kd.V_below HO198.out hb)
     replace HO203 := Aside0.mk (Kd.V_below HO203.out hb)
     replace HO214 := Aside0.mk (Kd.V_below HO214.out hb)
     replace HO225 := Aside0.mk (Kd.V_below HO225.out hb)
     replace BK234 := Aside0.mk (blk_below BK234.out hb)
     replace HB := Aside0.mk (below_step HB.out hb)
     (try clear hb)
     (try clear hb2)
     (try clear hk)
     (try clear hi)
     refine hK.out _ _ trivial (fun hHeld => ?_)
     clear hK K
     refine norm_ (a' := ?_) ?_ ?_
     rotate_left
     · show Act.put _ (some 36) _ = _
       simp only [Act.put, sA_, sB_, sC_, i64_w, i32_w]
       rfl
     exact norm_ (by rfl) (hJ3_15 (gb234) _ ⟨HO198.out, HO203.out, HO214.out, HO225.out, BK234.out, GW234.out, GE234.out, HB.out⟩)
   · skip
     refine box_step ?hg (N := 11) ?hd (cs := #[.int .i64 0, .int .i64 0, .int .i64 0, .int .i64 0, .int .i64 0, .int .i64 0]) (t := 50) ?hr ?_; (case hd => rfl); (case hg => rfl); (case hr => first | (go_simp; done) | (go_simp; rfl))
     intro gb232 hg w37 hbox hb
     have BK232 := Aside0.mk (hbox)
     have GW232 := Aside0.mk ((by rw [hg]; exact (below_size HB.out) : w.heap.size ≤ gb232))
     have GE232 := Aside0.mk ((by rw [hg]; exact (below_size HB.out) : w.heap.size ≤ gb232))
     have NB234_232 := Aside0.mk ((by rw [hg]; exact Nat.ne_of_lt (blk_lt BK234.out) : gb234 ≠ gb232))
     have NB232_234 := Aside0.mk ((by rw [hg]; exact Nat.ne_of_gt (blk_lt BK234.out) : gb232 ≠ gb234))
     replace HO198 := Aside0.mk (Kd.V_below (Kd.V_elderB HO198.out gb232 (Nat.le_of_eq hg.symm)) hb)
     replace HO203 := Aside0.mk (Kd.V_below (Kd.V_elderB HO203.out gb232 (Nat.le_of_eq hg.symm)) hb)
     replace HO214 := Aside0.mk (Kd.V_below (Kd.V_elderB HO214.out gb232 (Nat.le_of_eq hg.symm)) hb)
     replace HO225 := Aside0.mk (Kd.V_below (Kd.V_elderB HO225.out gb232 (Nat.le_of_eq hg.symm)) hb)
     replace BK234 := Aside0.mk (blk_below BK234.out hb)
     replace HB := Aside0.mk (below_step HB.out hb)
     clear hb hbox hg
     refine hK.out _ _ trivial (fun hHeld => ?_)
     clear hK K
     refine norm_ (a' := ?_) ?_ ?_
     rotate_left
     · show Act.put _ (some 11) _ = _
       simp only [Act.put, sA_, sB_, sC_, i64_w, i32_w]
       rfl
     exact norm_ (by rfl) (hJ13_15 (gb232, gb234) _ ⟨Kd.V_mono HO198.out (fun _ hk => ⟨hk.2, hk.1⟩), Kd.V_mono HO203.out (fun _ hk => ⟨hk.2, hk.1⟩), Kd.V_mono HO214.out (fun _ hk => ⟨hk.2, hk.1⟩), Kd.V_mono HO225.out (fun _ hk => ⟨hk.2, hk.1⟩), BK232.out, BK234.out, GW232.out, GE232.out, NB234_232.out, NB232_234.out, GW234.out, GE234.out, HB.out⟩)
   skip
   refine box_step ?hg (N := 12) ?hd (cs := #[.int .i64 0, .int .i64 0, .int .i64 0, .int .i64 0, .int .i64 0, .int .i64 0]) (t := 50) ?hr ?_; (case hd => rfl); (case hg => rfl); (case hr => first | (go_simp; done) | (go_simp; rfl))
   intro gb233 hg w37 hbox hb
   have BK233 := Aside0.mk (hbox)
   have GW233 := Aside0.mk ((by rw [hg]; exact (below_size HB.out) : w.heap.size ≤ gb233))
   have GE233 := Aside0.mk ((by rw [hg]; exact (below_size HB.out) : w.heap.size ≤ gb233))
   have NB234_233 := Aside0.mk ((by rw [hg]; exact Nat.ne_of_lt (blk_lt BK234.out) : gb234 ≠ gb233))
   have NB233_234 := Aside0.mk ((by rw [hg]; exact Nat.ne_of_gt (blk_lt BK234.out) : gb233 ≠ gb234))
   replace HO198 := Aside0.mk (Kd.V_below (Kd.V_elderB HO198.out gb233 (Nat.le_of_eq hg.symm)) hb)
   replace HO203 := Aside0.mk (Kd.V_below (Kd.V_elderB HO203.out gb233 (Nat.le_of_eq hg.symm)) hb)
   replace HO214 := Aside0.mk (Kd.V_below (Kd.V_elderB HO214.out gb233 (Nat.le_of_eq hg.symm)) hb)
   replace HO225 := Aside0.mk (Kd.V_below (Kd.V_elderB HO225.out gb233 (Nat.le_of_eq hg.symm)) hb)
   replace BK234 := Aside0.mk (blk_below BK234.out hb)
   replace HB := Aside0.mk (below_step HB.out hb)
   clear hb hbox hg
   refine hK.out _ _ trivial (fun hHeld => ?_)
   clear hK K
   refine norm_ (a' := ?_) ?_ ?_
   rotate_left
   · show Act.put _ (some 12) _ = _
     simp only [Act.put, sA_, sB_, sC_, i64_w, i32_w]
     rfl
   exact norm_ (by rfl) (hJ14_15 (gb233, gb234) _ ⟨Kd.V_mono HO198.out (fun _ hk => ⟨hk.2, hk.1⟩), Kd.V_mono HO203.out (fun _ hk => ⟨hk.2, hk.1⟩), Kd.V_mono HO214.out (fun _ hk => ⟨hk.2, hk.1⟩), Kd.V_mono HO225.out (fun _ hk => ⟨hk.2, hk.1⟩), BK233.out, BK234.out, GW233.out, GE233.out, NB234_233.out, NB233_234.out, GW234.out, GE234.out, HB.out⟩)
 rintro ⟨gb232, gb233, gb234⟩ w41 ⟨h0_, h1_, h2_, h3_, h4_, h5_, h6_, h7_, h8_, h9_, h10_, h11_, h12_, h13_, h14_, h15_, h16_, h17_, h18_, h19_⟩
 have HO203 : Aside0 (Kd.V k33 33 w41 w.heap.size (fun k_ => k_ ≠ gb232 ∧ k_ ≠ gb233 ∧ k_ ≠ gb234) (.slice Ao30 y199.length co30) y199) := ⟨h1_⟩
 have HO214 : Aside0 (Kd.V k33 33 w41 w.heap.size (fun k_ => k_ ≠ gb232 ∧ k_ ≠ gb233 ∧ k_ ≠ gb234) (.slice A33 y210.length c33) y210) := ⟨h2_⟩
 have HO225 : Aside0 (Kd.V k33 33 w41 w.heap.size (fun k_ => k_ ≠ gb232 ∧ k_ ≠ gb233 ∧ k_ ≠ gb234) (.slice A34 y221.length c34) y221) := ⟨h3_⟩
 have BK232 : Aside0 (w41.heap[gb232]? = some Z6_) := ⟨h4_⟩
 have BK233 : Aside0 (w41.heap[gb233]? = some Z6_) := ⟨h5_⟩
 have BK234 : Aside0 (w41.heap[gb234]? = some Z6_) := ⟨h6_⟩
 have GW232 : Aside0 (w.heap.size ≤ gb232) := ⟨h7_⟩
 have GE232 : Aside0 (w.heap.size ≤ gb232) := ⟨h8_⟩
 have NB233_232 : Aside0 (gb233 ≠ gb232) := ⟨h9_⟩
 have NB232_233 : Aside0 (gb232 ≠ gb233) := ⟨h10_⟩
 have NB234_232 : Aside0 (gb234 ≠ gb232) := ⟨h11_⟩
 have NB232_234 : Aside0 (gb232 ≠ gb234) := ⟨h12_⟩
 have GW233 : Aside0 (w.heap.size ≤ gb233) := ⟨h13_⟩
 have GE233 : Aside0 (w.heap.size ≤ gb233) := ⟨h14_⟩
 have NB234_233 : Aside0 (gb234 ≠ gb233) := ⟨h15_⟩
 have NB233_234 : Aside0 (gb233 ≠ gb234) := ⟨h16_⟩
 have GW234 : Aside0 (w.heap.size ≤ gb234) := ⟨h17_⟩
 have GE234 : Aside0 (w.heap.size ≤ gb234) := ⟨h18_⟩
 replace HO198 : Aside0 (Kd.V k33 33 w41 w.heap.size (fun k_ => k_ ≠ gb232 ∧ k_ ≠ gb233 ∧ k_ ≠ gb234) (.slice Ao30 t196.length co30) t196) := ⟨h0_⟩
 replace HB : Aside0 (Below w.heap.size w w41) := ⟨h19_⟩
 clear h0_ h1_ h2_ h3_ h4_ h5_ h6_ h7_ h8_ h9_ h10_ h11_ h12_ h13_ h14_ h15_ h16_ h17_ h18_ h19_
 have hHeld := trivial
 refine norm_ (a' := ?_) ?_ ?_
 rotate_left
 · simp only [putAll, Act.put, sA_, sB_, sC_]
   rfl
 refine one_ (i := 16) (N := none) (ra_ [17, 2]) rfl rfl (one_of HT_.out (by kernel_rfl)) (by decide) (fun K hK => ?_)
 have hs_0 : w41.cell? ⟨gb232, 0, none⟩ = some (.int .i64 0) := (blk_cell BK232.out 0).trans rfl
 have hf_0 := blk_frozen BK232.out 0
 have hs_1 : w41.cell? ⟨gb232, 1, none⟩ = some (.int .i64 0) := (blk_cell BK232.out 1).trans rfl
 have hf_1 := blk_frozen BK232.out 1
 have hs_2 : w41.cell? ⟨gb232, 2, none⟩ = some (.int .i64 0) := (blk_cell BK232.out 2).trans rfl
 have hf_2 := blk_frozen BK232.out 2
 have hs_3 : w41.cell? ⟨gb232, 3, none⟩ = some (.int .i64 0) := (blk_cell BK232.out 3).trans rfl
 have hf_3 := blk_frozen BK232.out 3
 have hs_4 : w41.cell? ⟨gb232, 4, none⟩ = some (.int .i64 0) := (blk_cell BK232.out 4).trans rfl
 have hf_4 := blk_frozen BK232.out 4
 have hs_5 : w41.cell? ⟨gb232, 5, none⟩ = some (.int .i64 0) := (blk_cell BK232.out 5).trans rfl
 have hf_5 := blk_frozen BK232.out 5
 refine skip_ (w1 := ?_) (by rfl) rfl ?_ ?_
 rotate_left
 · go_simp
   rfl
 refine hK.out _ _ trivial (fun hHeld => ?_)
 clear hK K hs_0 hf_0 hs_1 hf_1 hs_2 hf_2 hs_3 hf_3 hs_4 hf_4 hs_5 hf_5
 have n0_ := Aside0.mk (V_set6 HO198.out (fun _ hk => hk.1) (.int .i64 t204) (.int .i64 t205) (.int .i64 t206) (.int .i64 t207) (.int .i64 t208) (.int .i64 t209))
 have n1_ := Aside0.mk (V_set6 HO203.out (fun _ hk => hk.1) (.int .i64 t204) (.int .i64 t205) (.int .i64 t206) (.int .i64 t207) (.int .i64 t208) (.int .i64 t209))
 have n2_ := Aside0.mk (V_set6 HO214.out (fun _ hk => hk.1) (.int .i64 t204) (.int .i64 t205) (.int .i64 t206) (.int .i64 t207) (.int .i64 t208) (.int .i64 t209))
 have n3_ := Aside0.mk (V_set6 HO225.out (fun _ hk => hk.1) (.int .i64 t204) (.int .i64 t205) (.int .i64 t206) (.int .i64 t207) (.int .i64 t208) (.int .i64 t209))
 have n4_ := Aside0.mk (blk_put6 BK232.out (.int .i64 t204) (.int .i64 t205) (.int .i64 t206) (.int .i64 t207) (.int .i64 t208) (.int .i64 t209))
 have n5_ := Aside0.mk (blk_far6 BK233.out (by first | exact NB233_232.out | exact NB232_233.out) (.int .i64 t204) (.int .i64 t205) (.int .i64 t206) (.int .i64 t207) (.int .i64 t208) (.int .i64 t209))
 have n6_ := Aside0.mk (blk_far6 BK234.out (by first | exact NB234_232.out | exact NB232_234.out) (.int .i64 t204) (.int .i64 t205) (.int .i64 t206) (.int .i64 t207) (.int .i64 t208) (.int .i64 t209))
 have n7_ := Aside0.mk (below_set6 HB.out GE232.out (.int .i64 t204) (.int .i64 t205) (.int .i64 t206) (.int .i64 t207) (.int .i64 t208) (.int .i64 t209))
 clear HO198 HO203 HO214 HO225 BK232 BK233 BK234 HB
 generalize ((((((w41.setCell ⟨gb232, 0, none⟩ (.int .i64 t204)).setCell ⟨gb232, 1, none⟩ (.int .i64 t205)).setCell ⟨gb232, 2, none⟩ (.int .i64 t206)).setCell ⟨gb232, 3, none⟩ (.int .i64 t207)).setCell ⟨gb232, 4, none⟩ (.int .i64 t208)).setCell ⟨gb232, 5, none⟩ (.int .i64 t209)) = w_s0 at n0_ n1_ n2_ n3_ n4_ n5_ n6_ n7_ ⊢
 have HO198 := n0_
 have HO203 := n1_
 have HO214 := n2_
 have HO225 := n3_
 have BK232 := n4_
 have BK233 := n5_
 have BK234 := n6_
 have HB := n7_
 clear n0_ n1_ n2_ n3_ n4_ n5_ n6_ n7_
 refine one_ (i := 17) (N := none) (ra_ [18, 1]) rfl rfl (one_of HT_.out (by kernel_rfl)) (by decide) (fun K hK => ?_)
 have hs_0 : w_s0.cell? ⟨gb233, 0, none⟩ = some (.int .i64 0) := (blk_cell BK233.out 0).trans rfl
 have hf_0 := blk_frozen BK233.out 0
 have hs_1 : w_s0.cell? ⟨gb233, 1, none⟩ = some (.int .i64 0) := (blk_cell BK233.out 1).trans rfl
 have hf_1 := blk_frozen BK233.out 1
 have hs_2 : w_s0.cell? ⟨gb233, 2, none⟩ = some (.int .i64 0) := (blk_cell BK233.out 2).trans rfl
 have hf_2 := blk_frozen BK233.out 2
 have hs_3 : w_s0.cell? ⟨gb233, 3, none⟩ = some (.int .i64 0) := (blk_cell BK233.out 3).trans rfl
 have hf_3 := blk_frozen BK233.out 3
 have hs_4 : w_s0.cell? ⟨gb233, 4, none⟩ = some (.int .i64 0) := (blk_cell BK233.out 4).trans rfl
 have hf_4 := blk_frozen BK233.out 4
 have hs_5 : w_s0.cell? ⟨gb233, 5, none⟩ = some (.int .i64 0) := (blk_cell BK233.out 5).trans rfl
 have hf_5 := blk_frozen BK233.out 5
 refine skip_ (w1 := ?_) (by rfl) rfl ?_ ?_
 rotate_left
 · go_simp
   rfl
 refine hK.out _ _ trivial (fun hHeld => ?_)
 clear hK K hs_0 hf_0 hs_1 hf_1 hs_2 hf_2 hs_3 hf_3 hs_4 hf_4 hs_5 hf_5
 have n0_ := Aside0.mk (V_set6 HO198.out (fun _ hk => hk.2.1) (.int .i64 t215) (.int .i64 t216) (.int .i64 t217) (.int .i64 t218) (.int .i64 t219) (.int .i64 t220))
 have n1_ := Aside0.mk (V_set6 HO203.out (fun _ hk => hk.2.1) (.int .i64 t215) (.int .i64 t216) (.int .i64 t217) (.int .i64 t218) (.int .i64 t219) (.int .i64 t220))
 have n2_ := Aside0.mk (V_set6 HO214.out (fun _ hk => hk.2.1) (.int .i64 t215) (.int .i64 t216) (.int .i64 t217) (.int .i64 t218) (.int .i64 t219) (.int .i64 t220))
 have n3_ := Aside0.mk (V_set6 HO225.out (fun _ hk => hk.2.1) (.int .i64 t215) (.int .i64 t216) (.int .i64 t217) (.int .i64 t218) (.int .i64 t219) (.int .i64 t220))
 have n4_ := Aside0.mk (blk_far6 BK232.out (by first | exact NB232_233.out | exact NB233_232.out) (.int .i64 t215) (.int .i64 t216) (.int .i64 t217) (.int .i64 t218) (.int .i64 t219) (.int .i64 t220))
 have n5_ := Aside0.mk (blk_put6 BK233.out (.int .i64 t215) (.int .i64 t216) (.int .i64 t217) (.int .i64 t218) (.int .i64 t219) (.int .i64 t220))
 have n6_ := Aside0.mk (blk_far6 BK234.out (by first | exact NB234_233.out | exact NB233_234.out) (.int .i64 t215) (.int .i64 t216) (.int .i64 t217) (.int .i64 t218) (.int .i64 t219) (.int .i64 t220))
 have n7_ := Aside0.mk (below_set6 HB.out GE233.out (.int .i64 t215) (.int .i64 t216) (.int .i64 t217) (.int .i64 t218) (.int .i64 t219) (.int .i64 t220))
 clear HO198 HO203 HO214 HO225 BK232 BK233 BK234 HB
 generalize ((((((w_s0.setCell ⟨gb233, 0, none⟩ (.int .i64 t215)).setCell ⟨gb233, 1, none⟩ (.int .i64 t216)).setCell ⟨gb233, 2, none⟩ (.int .i64 t217)).setCell ⟨gb233, 3, none⟩ (.int .i64 t218)).setCell ⟨gb233, 4, none⟩ (.int .i64 t219)).setCell ⟨gb233, 5, none⟩ (.int .i64 t220)) = w_s1 at n0_ n1_ n2_ n3_ n4_ n5_ n6_ n7_ ⊢
 have HO198 := n0_
 have HO203 := n1_
 have HO214 := n2_
 have HO225 := n3_
 have BK232 := n4_
 have BK233 := n5_
 have BK234 := n6_
 have HB := n7_
 clear n0_ n1_ n2_ n3_ n4_ n5_ n6_ n7_
 refine one_ (i := 18) (N := none) (ra_ [19]) rfl rfl (one_of HT_.out (by kernel_rfl)) (by decide) (fun K hK => ?_)
 have hs_0 : w_s1.cell? ⟨gb234, 0, none⟩ = some (.int .i64 0) := (blk_cell BK234.out 0).trans rfl
 have hf_0 := blk_frozen BK234.out 0
 have hs_1 : w_s1.cell? ⟨gb234, 1, none⟩ = some (.int .i64 0) := (blk_cell BK234.out 1).trans rfl
 have hf_1 := blk_frozen BK234.out 1
 have hs_2 : w_s1.cell? ⟨gb234, 2, none⟩ = some (.int .i64 0) := (blk_cell BK234.out 2).trans rfl
 have hf_2 := blk_frozen BK234.out 2
 have hs_3 : w_s1.cell? ⟨gb234, 3, none⟩ = some (.int .i64 0) := (blk_cell BK234.out 3).trans rfl
 have hf_3 := blk_frozen BK234.out 3
 have hs_4 : w_s1.cell? ⟨gb234, 4, none⟩ = some (.int .i64 0) := (blk_cell BK234.out 4).trans rfl
 have hf_4 := blk_frozen BK234.out 4
 have hs_5 : w_s1.cell? ⟨gb234, 5, none⟩ = some (.int .i64 0) := (blk_cell BK234.out 5).trans rfl
 have hf_5 := blk_frozen BK234.out 5
 refine skip_ (w1 := ?_) (by rfl) rfl ?_ ?_
 rotate_left
 · go_simp
   rfl
 refine hK.out _ _ trivial (fun hHeld => ?_)
 clear hK K hs_0 hf_0 hs_1 hf_1 hs_2 hf_2 hs_3 hf_3 hs_4 hf_4 hs_5 hf_5
 have n0_ := Aside0.mk (V_set6 HO198.out (fun _ hk => hk.2.2) (.int .i64 t226) (.int .i64 t227) (.int .i64 t228) (.int .i64 t229) (.int .i64 t230) (.int .i64 t231))
 have n1_ := Aside0.mk (V_set6 HO203.out (fun _ hk => hk.2.2) (.int .i64 t226) (.int .i64 t227) (.int .i64 t228) (.int .i64 t229) (.int .i64 t230) (.int .i64 t231))
 have n2_ := Aside0.mk (V_set6 HO214.out (fun _ hk => hk.2.2) (.int .i64 t226) (.int .i64 t227) (.int .i64 t228) (.int .i64 t229) (.int .i64 t230) (.int .i64 t231))
 have n3_ := Aside0.mk (V_set6 HO225.out (fun _ hk => hk.2.2) (.int .i64 t226) (.int .i64 t227) (.int .i64 t228) (.int .i64 t229) (.int .i64 t230) (.int .i64 t231))
 have n4_ := Aside0.mk (blk_far6 BK232.out (by first | exact NB232_234.out | exact NB234_232.out) (.int .i64 t226) (.int .i64 t227) (.int .i64 t228) (.int .i64 t229) (.int .i64 t230) (.int .i64 t231))
 have n5_ := Aside0.mk (blk_far6 BK233.out (by first | exact NB233_234.out | exact NB234_233.out) (.int .i64 t226) (.int .i64 t227) (.int .i64 t228) (.int .i64 t229) (.int .i64 t230) (.int .i64 t231))
 have n6_ := Aside0.mk (blk_put6 BK234.out (.int .i64 t226) (.int .i64 t227) (.int .i64 t228) (.int .i64 t229) (.int .i64 t230) (.int .i64 t231))
 have n7_ := Aside0.mk (below_set6 HB.out GE234.out (.int .i64 t226) (.int .i64 t227) (.int .i64 t228) (.int .i64 t229) (.int .i64 t230) (.int .i64 t231))
 clear HO198 HO203 HO214 HO225 BK232 BK233 BK234 HB
 generalize ((((((w_s1.setCell ⟨gb234, 0, none⟩ (.int .i64 t226)).setCell ⟨gb234, 1, none⟩ (.int .i64 t227)).setCell ⟨gb234, 2, none⟩ (.int .i64 t228)).setCell ⟨gb234, 3, none⟩ (.int .i64 t229)).setCell ⟨gb234, 4, none⟩ (.int .i64 t230)).setCell ⟨gb234, 5, none⟩ (.int .i64 t231)) = w60 at n0_ n1_ n2_ n3_ n4_ n5_ n6_ n7_ ⊢
 have HO198 := n0_
 have HO203 := n1_
 have HO214 := n2_
 have HO225 := n3_
 have BK232 := n4_
 have BK233 := n5_
 have BK234 := n6_
 have HB := n7_
 clear n0_ n1_ n2_ n3_ n4_ n5_ n6_ n7_
 refine done_ (done_of HT_.out (by kernel_rfl)) ?_
 try go_wp2
 replace HO198 := Aside0.mk (Kd.V_drew HO198.out)
 replace HO203 := Aside0.mk (Kd.V_drew HO203.out)
 replace HO214 := Aside0.mk (Kd.V_drew HO214.out)
 replace HO225 := Aside0.mk (Kd.V_drew HO225.out)
 replace BK232 := Aside0.mk (blk_drew BK232.out)
 replace BK233 := Aside0.mk (blk_drew BK233.out)
 replace BK234 := Aside0.mk (blk_drew BK234.out)
 replace HB := Aside0.mk (below_drew1 HB.out)
 have H := HC_.out
 clear HC_
 by_cases c20 : t195 = true
 rotate_left
 · replace c20 := Bool.eq_false_iff.mpr c20
   subst c20
   have H1 : (some false) = some r := by rw [if_neg (show ¬ (false = true) by decide)] at H; exact H
   clear H
   have H := H1
   clear H1
   obtain rfl := Option.some.inj H
   refine start_ (n := 22) (S := fun w' => True) (ds := []) (ra_ [0, 22]) (by kernel_rfl) rfl rfl trivial (fun hHeld => ?_); refine with_tabW marigraphlaw12_AggParts.tab6 marigraphlaw12_AggParts.bits6 (fun HT_ HW_ => ?_)
   generalize w60.drew = w138 at HO198 HO203 HO214 HO225 BK232 BK233 BK234 HB hHeld ⊢
   refine pure_ (i := 0) (N := some 46) (v := ?_) (a' := ?_) (ra_ [1, 21]) rfl rfl (any_of HT_.out (by kernel_rfl)) (fun _ _ _ h => h) (Or.inl ⟨by rfl, ?_⟩) ?_ ?_
   rotate_left
   · intro w'
     go_simp
     with_reducible rfl
   rotate_left
   · simp only [Act.put, sA_, sB_, sC_, i64_w, i32_w]
     rfl
   refine pure_ (i := 1) (N := some 47) (v := ?_) (a' := ?_) (ra_ [2, 20]) rfl rfl (any_of HT_.out (by kernel_rfl)) (fun _ _ _ h => h) (Or.inl ⟨by rfl, ?_⟩) ?_ ?_
   rotate_left
   · intro w'
     go_simp
     with_reducible rfl
   rotate_left
   · simp only [Act.put, sA_, sB_, sC_, i64_w, i32_w]
     rfl
   refine pure_ (i := 2) (N := some 48) (v := undef) (a' := ?_) (ra_ [3, 19]) rfl rfl (any_of HT_.out (by kernel_rfl)) (fun _ _ _ h => h) (Or.inr ⟨by rfl, rfl⟩) ?_ ?_
   rotate_left
   · simp only [Act.put, sA_, sB_, sC_, i64_w, i32_w]
     rfl
   refine pure_ (i := 3) (N := some 49) (v := undef) (a' := ?_) (ra_ [4, 18]) rfl rfl (any_of HT_.out (by kernel_rfl)) (fun _ _ _ h => h) (Or.inr ⟨by rfl, rfl⟩) ?_ ?_
   rotate_left
   · simp only [Act.put, sA_, sB_, sC_, i64_w, i32_w]
     rfl
   refine pure_ (i := 4) (N := some 50) (v := undef) (a' := ?_) (ra_ [5, 17]) rfl rfl (any_of HT_.out (by kernel_rfl)) (fun _ _ _ h => h) (Or.inr ⟨by rfl, rfl⟩) ?_ ?_
   rotate_left
   · simp only [Act.put, sA_, sB_, sC_, i64_w, i32_w]
     rfl
   refine pure_ (i := 5) (N := some 51) (v := undef) (a' := ?_) (ra_ [6, 16]) rfl rfl (any_of HT_.out (by kernel_rfl)) (fun _ _ _ h => h) (Or.inr ⟨by rfl, rfl⟩) ?_ ?_
   rotate_left
   · simp only [Act.put, sA_, sB_, sC_, i64_w, i32_w]
     rfl
   refine pure_ (i := 6) (N := some 52) (v := undef) (a' := ?_) (ra_ [7, 15]) rfl rfl (any_of HT_.out (by kernel_rfl)) (fun _ _ _ h => h) (Or.inr ⟨by rfl, rfl⟩) ?_ ?_
   rotate_left
   · simp only [Act.put, sA_, sB_, sC_, i64_w, i32_w]
     rfl
   refine pure_ (i := 7) (N := some 53) (v := undef) (a' := ?_) (ra_ [8, 14]) rfl rfl (any_of HT_.out (by kernel_rfl)) (fun _ _ _ h => h) (Or.inr ⟨by rfl, rfl⟩) ?_ ?_
   rotate_left
   · simp only [Act.put, sA_, sB_, sC_, i64_w, i32_w]
     rfl
   refine pure_ (i := 8) (N := some 54) (v := undef) (a' := ?_) (ra_ [9, 13]) rfl rfl (any_of HT_.out (by kernel_rfl)) (fun _ _ _ h => h) (Or.inr ⟨by rfl, rfl⟩) ?_ ?_
   rotate_left
   · simp only [Act.put, sA_, sB_, sC_, i64_w, i32_w]
     rfl
   refine pure_ (i := 9) (N := some 55) (v := undef) (a' := ?_) (ra_ [10, 12]) rfl rfl (any_of HT_.out (by kernel_rfl)) (fun _ _ _ h => h) (Or.inr ⟨by rfl, rfl⟩) ?_ ?_
   rotate_left
   · simp only [Act.put, sA_, sB_, sC_, i64_w, i32_w]
     rfl
   refine pure_ (i := 10) (N := some 56) (v := ?_) (a' := ?_) (ra_ [11, 11]) rfl rfl (any_of HT_.out (by kernel_rfl)) (fun _ _ _ h => h) (Or.inl ⟨by rfl, ?_⟩) ?_ ?_
   rotate_left
   · intro w'
     go_simp
     with_reducible rfl
   rotate_left
   · simp only [Act.put, sA_, sB_, sC_, i64_w, i32_w]
     rfl
   refine pure_ (i := 11) (N := some 57) (v := ?_) (a' := ?_) (ra_ [12, 10]) rfl rfl (any_of HT_.out (by kernel_rfl)) (fun _ _ _ h => h) (Or.inl ⟨by rfl, ?_⟩) ?_ ?_
   rotate_left
   · intro w'
     go_simp
     with_reducible rfl
   rotate_left
   · simp only [Act.put, sA_, sB_, sC_, i64_w, i32_w]
     rfl
   refine pure_ (i := 12) (N := some 58) (v := undef) (a' := ?_) (ra_ [13, 9]) rfl rfl (any_of HT_.out (by kernel_rfl)) (fun _ _ _ h => h) (Or.inr ⟨by rfl, rfl⟩) ?_ ?_
   rotate_left
   · simp only [Act.put, sA_, sB_, sC_, i64_w, i32_w]
     rfl
   refine pure_ (i := 13) (N := some 59) (v := undef) (a' := ?_) (ra_ [14, 8]) rfl rfl (any_of HT_.out (by kernel_rfl)) (fun _ _ _ h => h) (Or.inr ⟨by rfl, rfl⟩) ?_ ?_
   rotate_left
   · simp only [Act.put, sA_, sB_, sC_, i64_w, i32_w]
     rfl
   refine pure_ (i := 14) (N := some 60) (v := undef) (a' := ?_) (ra_ [15, 7]) rfl rfl (any_of HT_.out (by kernel_rfl)) (fun _ _ _ h => h) (Or.inr ⟨by rfl, rfl⟩) ?_ ?_
   rotate_left
   · simp only [Act.put, sA_, sB_, sC_, i64_w, i32_w]
     rfl
   refine pure_ (i := 15) (N := some 61) (v := undef) (a' := ?_) (ra_ [16, 6]) rfl rfl (any_of HT_.out (by kernel_rfl)) (fun _ _ _ h => h) (Or.inr ⟨by rfl, rfl⟩) ?_ ?_
   rotate_left
   · simp only [Act.put, sA_, sB_, sC_, i64_w, i32_w]
     rfl
   refine pure_ (i := 16) (N := some 62) (v := undef) (a' := ?_) (ra_ [17, 5]) rfl rfl (any_of HT_.out (by kernel_rfl)) (fun _ _ _ h => h) (Or.inr ⟨by rfl, rfl⟩) ?_ ?_
   rotate_left
   · simp only [Act.put, sA_, sB_, sC_, i64_w, i32_w]
     rfl
   refine pure_ (i := 17) (N := some 63) (v := undef) (a' := ?_) (ra_ [18, 4]) rfl rfl (any_of HT_.out (by kernel_rfl)) (fun _ _ _ h => h) (Or.inr ⟨by rfl, rfl⟩) ?_ ?_
   rotate_left
   · simp only [Act.put, sA_, sB_, sC_, i64_w, i32_w]
     rfl
   refine pure_ (i := 18) (N := some 64) (v := undef) (a' := ?_) (ra_ [19, 3]) rfl rfl (any_of HT_.out (by kernel_rfl)) (fun _ _ _ h => h) (Or.inr ⟨by rfl, rfl⟩) ?_ ?_
   rotate_left
   · simp only [Act.put, sA_, sB_, sC_, i64_w, i32_w]
     rfl
   refine pure_ (i := 19) (N := some 65) (v := undef) (a' := ?_) (ra_ [20, 2]) rfl rfl (any_of HT_.out (by kernel_rfl)) (fun _ _ _ h => h) (Or.inr ⟨by rfl, rfl⟩) ?_ ?_
   rotate_left
   · simp only [Act.put, sA_, sB_, sC_, i64_w, i32_w]
     rfl
   refine pure_ (i := 20) (N := some 66) (v := ?_) (a' := ?_) (ra_ [21, 1]) rfl rfl (any_of HT_.out (by kernel_rfl)) (fun _ _ _ h => h) (Or.inl ⟨by rfl, ?_⟩) ?_ ?_
   rotate_left
   · intro w'
     go_simp
     with_reducible rfl
   rotate_left
   · simp only [Act.put, sA_, sB_, sC_, i64_w, i32_w]
     rfl
   refine pure_ (i := 21) (N := some 6) (v := ?_) (a' := ?_) (ra_ [22]) rfl rfl (any_of HT_.out (by kernel_rfl)) (fun _ _ _ h => h) (Or.inl ⟨by rfl, ?_⟩) ?_ ?_
   rotate_left
   · intro w'
     go_simp
     with_reducible rfl
   rotate_left
   · simp only [Act.put, sA_, sB_, sC_, i64_w, i32_w]
     rfl
   refine done_ (done_of HT_.out (by kernel_rfl)) ?_
   try go_wp2
   go_ret
   exact ⟨by first | rfl | (simp [errW_none, errW_some] <;> rfl) | (simp only [← hji8, ← hji16]; first | rfl | (simp [errW_none, errW_some] <;> rfl)) | (simp [*, errW_none, errW_some] <;> rfl), by repeat (first | (with_reducible first | exact HB.out | apply below_alloc | apply pw_below_drewN | apply below_drew1 | refine below_set ?_ GE232.out | refine below_set ?_ GE233.out | refine below_set ?_ GE234.out) | exact HB.out)⟩
 subst c20
 have H1 : ((agg_Join.f t204 t205 t206 t207 t208 t209 t215 t216 t217 t218 t219 t220).bind fun bt235 => ((agg_Join.f bt235.1 bt235.2.1 bt235.2.2.1 bt235.2.2.2.1 bt235.2.2.2.2.1 bt235.2.2.2.2.2 t226 t227 t228 t229 t230 t231).bind fun bt241 => ((agg_Of.f k t196).bind fun bt247 => (if (bt241.1 == bt247.1 && (bt241.2.1 == bt247.2.1 && (bt241.2.2.1 == bt247.2.2.1 && (bt241.2.2.2.1 == bt247.2.2.2.1 && (bt241.2.2.2.2.1 == bt247.2.2.2.2.1 && (bt241.2.2.2.2.2 == bt247.2.2.2.2.2)))))) = true then ((agg_Join.f t215 t216 t217 t218 t219 t220 t226 t227 t228 t229 t230 t231).bind fun bt253 => ((agg_Join.f t204 t205 t206 t207 t208 t209 bt253.1 bt253.2.1 bt253.2.2.1 bt253.2.2.2.1 bt253.2.2.2.2.1 bt253.2.2.2.2.2).bind fun bt259 => ((agg_Of.f k t196).bind fun bt265 => (some (bt259.1 == bt265.1 && (bt259.2.1 == bt265.2.1 && (bt259.2.2.1 == bt265.2.2.1 && (bt259.2.2.2.1 == bt265.2.2.2.1 && (bt259.2.2.2.2.1 == bt265.2.2.2.2.1 && (bt259.2.2.2.2.2 == bt265.2.2.2.2.2)))))))))) else (some false))))) = some r := by rw [if_pos rfl] at H; exact H
 clear H
 have H := H1
 clear H1
 replace H := Option.bind_eq_some_iff.mp H
 obtain ⟨⟨t235, t236, t237, t238, t239, t240⟩, A210, H⟩ := H
 (try dsimp only at H)
 have A21 := Aside0.mk A210
 clear A210
 replace H := Option.bind_eq_some_iff.mp H
 obtain ⟨⟨t241, t242, t243, t244, t245, t246⟩, A220, H⟩ := H
 (try dsimp only at H)
 have A22 := Aside0.mk A220
 clear A220
 replace H := Option.bind_eq_some_iff.mp H
 obtain ⟨⟨t247, t248, t249, t250, t251, t252⟩, A230, H⟩ := H
 (try dsimp only at H)
 have A23 := Aside0.mk A230
 clear A230
 by_cases c24 : (t241 == t247 && (t242 == t248 && (t243 == t249 && (t244 == t250 && (t245 == t251 && (t246 == t252)))))) = true
 rotate_left
 · rw [if_neg c24] at H
   have c24b0 : (t241 == t247 && (t242 == t248 && (t243 == t249 && (t244 == t250 && (t245 == t251 && (t246 == t252)))))) = false := by simpa using c24
   (try (have c24b1 : decide (t241 = t247 && (t242 == t248 && (t243 == t249 && (t244 == t250 && (t245 == t251 && (t246 == t252)))))) = false := by simpa using c24))
   (try (have c24b2 : (t241 == t247 && (t242 == t248 && (t243 == t249 && (t244 == t250 && (t245 == t251 && (t246 == t252)))))) = false := by simpa using c24))
   (try (have c24b3 : ¬ (t241 = t247 && (t242 == t248 && (t243 == t249 && (t244 == t250 && (t245 == t251 && (t246 == t252)))))) := by simpa using c24))
   clear c24
   obtain rfl := Option.some.inj H
   refine start_ (n := 22) (S := fun w' => w'.cell? ⟨gb232, 0, none⟩ = some (.int .i64 t204) ∧ w'.cell? ⟨gb232, 1, none⟩ = some (.int .i64 t205) ∧ w'.cell? ⟨gb232, 2, none⟩ = some (.int .i64 t206) ∧ w'.cell? ⟨gb232, 3, none⟩ = some (.int .i64 t207) ∧ w'.cell? ⟨gb232, 4, none⟩ = some (.int .i64 t208) ∧ w'.cell? ⟨gb232, 5, none⟩ = some (.int .i64 t209) ∧ w'.cell? ⟨gb233, 0, none⟩ = some (.int .i64 t215) ∧ w'.cell? ⟨gb233, 1, none⟩ = some (.int .i64 t216) ∧ w'.cell? ⟨gb233, 2, none⟩ = some (.int .i64 t217) ∧ w'.cell? ⟨gb233, 3, none⟩ = some (.int .i64 t218) ∧ w'.cell? ⟨gb233, 4, none⟩ = some (.int .i64 t219) ∧ w'.cell? ⟨gb233, 5, none⟩ = some (.int .i64 t220) ∧ w'.cell? ⟨gb234, 0, none⟩ = some (.int .i64 t226) ∧ w'.cell? ⟨gb234, 1, none⟩ = some (.int .i64 t227) ∧ w'.cell? ⟨gb234, 2, none⟩ = some (.int .i64 t228) ∧ w'.cell? ⟨gb234, 3, none⟩ = some (.int .i64 t229) ∧ w'.cell? ⟨gb234, 4, none⟩ = some (.int .i64 t230) ∧ w'.cell? ⟨gb234, 5, none⟩ = some (.int .i64 t231)) (ds := []) (ra_ [0, 22]) (by kernel_rfl) rfl rfl ⟨(blk_cell BK232.out 0).trans rfl, (blk_cell BK232.out 1).trans rfl, (blk_cell BK232.out 2).trans rfl, (blk_cell BK232.out 3).trans rfl, (blk_cell BK232.out 4).trans rfl, (blk_cell BK232.out 5).trans rfl, (blk_cell BK233.out 0).trans rfl, (blk_cell BK233.out 1).trans rfl, (blk_cell BK233.out 2).trans rfl, (blk_cell BK233.out 3).trans rfl, (blk_cell BK233.out 4).trans rfl, (blk_cell BK233.out 5).trans rfl, (blk_cell BK234.out 0).trans rfl, (blk_cell BK234.out 1).trans rfl, (blk_cell BK234.out 2).trans rfl, (blk_cell BK234.out 3).trans rfl, (blk_cell BK234.out 4).trans rfl, (blk_cell BK234.out 5).trans rfl⟩ (fun hHeld => ?_); refine with_tabW marigraphlaw12_AggParts.tab6 marigraphlaw12_AggParts.bits6 (fun HT_ HW_ => ?_)
   generalize w60.drew = w101 at HO198 HO203 HO214 HO225 BK232 BK233 BK234 HB hHeld ⊢
   refine pure_ (i := 0) (N := some 46) (v := ?_) (a' := ?_) (ra_ [1, 21]) rfl rfl (any_of HT_.out (by kernel_rfl)) (fun _ _ _ h => h) (Or.inl ⟨by rfl, ?_⟩) ?_ ?_
   rotate_left
   · intro w'
     go_simp
     with_reducible rfl
   rotate_left
   · simp only [Act.put, sA_, sB_, sC_, i64_w, i32_w]
     rfl
   refine pure_ (i := 1) (N := some 47) (v := ?_) (a' := ?_) (ra_ [2, 20]) rfl rfl (any_of HT_.out (by kernel_rfl)) (fun _ _ _ h => h) (Or.inl ⟨by rfl, ?_⟩) ?_ ?_
   rotate_left
   · intro w'
     go_simp
     with_reducible rfl
   rotate_left
   · simp only [Act.put, sA_, sB_, sC_, i64_w, i32_w]
     rfl
   refine pure_ (i := 7) (N := some 53) (v := ?_) (a' := ?_) (ra_ [2, 5, 1, 14]) rfl rfl (any_of HT_.out (by kernel_rfl)) (fun _ _ _ h => h) (Or.inl ⟨by rfl, ?_⟩) ?_ ?_
   rotate_left
   · intro w'
     go_simp
     with_reducible rfl
   rotate_left
   · simp only [Act.put, sA_, sB_, sC_, i64_w, i32_w]
     rfl
   refine take_ (i := 2) (N := some 48) (v := ?_) (a' := ?_) (ra_ [3, 4, 1, 14]) rfl rfl (take_ofW HT_.out HW_.out (by kernel_rfl)) (fun _ _ _ h => h) (Or.inl ⟨by rfl, ?_⟩) hHeld ?_ ?_
   rotate_left
   · rintro w' ⟨s0, s1, s2, s3, s4, s5, s6, s7, s8, s9, s10, s11, s12, s13, s14, s15, s16, s17⟩
     go_simp
     with_reducible rfl
   rotate_left
   · simp only [Act.put, sA_, sB_, sC_, i64_w, i32_w]
     rfl
   refine take_ (i := 3) (N := some 49) (v := ?_) (a' := ?_) (ra_ [4, 3, 1, 14]) rfl rfl (take_ofW HT_.out HW_.out (by kernel_rfl)) (fun _ _ _ h => h) (Or.inl ⟨by rfl, ?_⟩) hHeld ?_ ?_
   rotate_left
   · rintro w' ⟨s0, s1, s2, s3, s4, s5, s6, s7, s8, s9, s10, s11, s12, s13, s14, s15, s16, s17⟩
     go_simp
     with_reducible rfl
   rotate_left
   · simp only [Act.put, sA_, sB_, sC_, i64_w, i32_w]
     rfl
   refine take_ (i := 5) (N := some 51) (v := ?_) (a' := ?_) (ra_ [4, 1, 1, 1, 1, 14]) rfl rfl (take_ofW HT_.out HW_.out (by kernel_rfl)) (fun _ _ _ h => h) (Or.inl ⟨by rfl, ?_⟩) hHeld ?_ ?_
   rotate_left
   · rintro w' ⟨s0, s1, s2, s3, s4, s5, s6, s7, s8, s9, s10, s11, s12, s13, s14, s15, s16, s17⟩
     go_simp
     with_reducible rfl
   rotate_left
   · simp only [Act.put, sA_, sB_, sC_, i64_w, i32_w]
     rfl
   refine one_ (i := 4) (N := some 50) (ra_ [6, 1, 1, 14]) rfl rfl (one_of HT_.out (by kernel_rfl)) (by decide) (fun K hK => ?_)
   refine goes_ Try.func32 (by kernel_rfl) rfl #[.agg #[.int .i64 t204, .int .i64 t205, .int .i64 t206, .int .i64 t207, .int .i64 t208, .int .i64 t209], .agg #[.int .i64 t215, .int .i64 t216, .int .i64 t217, .int .i64 t218, .int .i64 t219, .int .i64 t220]] (by rfl) rfl rfl (by (try simp only [List.map_toArray, List.map_cons, List.map_nil]); first | done | rfl | (simp only [List.length_drop, List.length_take]; rfl)) ?_
   with_reducible refine (agg_Join.calls t204 t205 t206 t207 t208 t209 t215 t216 t217 t218 t219 t220 t235 t236 t237 t238 t239 t240 _ A21.out).mono ?_
   rintro e w102 ⟨rfl, hb⟩
   refine ⟨_, rfl, ?_⟩
   replace HO198 := Aside0.mk (Kd.V_below HO198.out hb)
   replace HO203 := Aside0.mk (Kd.V_below HO203.out hb)
   replace HO214 := Aside0.mk (Kd.V_below HO214.out hb)
   replace HO225 := Aside0.mk (Kd.V_below HO225.out hb)
   replace BK232 := Aside0.mk (blk_below BK232.out hb)
   replace BK233 := Aside0.mk (blk_below BK233.out hb)
   replace BK234 := Aside0.mk (blk_below BK234.out hb)
   replace HB := Aside0.mk (below_step HB.out hb)
   (try clear hb)
   (try clear hb2)
   (try clear hk)
   (try clear hi)
   refine hK.out _ _ ⟨(blk_cell BK232.out 0).trans rfl, (blk_cell BK232.out 1).trans rfl, (blk_cell BK232.out 2).trans rfl, (blk_cell BK232.out 3).trans rfl, (blk_cell BK232.out 4).trans rfl, (blk_cell BK232.out 5).trans rfl, (blk_cell BK233.out 0).trans rfl, (blk_cell BK233.out 1).trans rfl, (blk_cell BK233.out 2).trans rfl, (blk_cell BK233.out 3).trans rfl, (blk_cell BK233.out 4).trans rfl, (blk_cell BK233.out 5).trans rfl, (blk_cell BK234.out 0).trans rfl, (blk_cell BK234.out 1).trans rfl, (blk_cell BK234.out 2).trans rfl, (blk_cell BK234.out 3).trans rfl, (blk_cell BK234.out 4).trans rfl, (blk_cell BK234.out 5).trans rfl⟩ (fun hHeld => ?_)
   clear hK K
   refine norm_ (a' := ?_) ?_ ?_
   rotate_left
   · show Act.put _ (some 50) _ = _
     simp only [Act.put, sA_, sB_, sC_, i64_w, i32_w]
     rfl
   refine one_ (i := 6) (N := some 52) (ra_ [8, 14]) rfl rfl (one_of HT_.out (by kernel_rfl)) (by decide) (fun K hK => ?_)
   refine goes_ Try.func32 (by kernel_rfl) rfl #[.agg #[.int .i64 t235, .int .i64 t236, .int .i64 t237, .int .i64 t238, .int .i64 t239, .int .i64 t240], .agg #[.int .i64 t226, .int .i64 t227, .int .i64 t228, .int .i64 t229, .int .i64 t230, .int .i64 t231]] (by rfl) rfl rfl (by (try simp only [List.map_toArray, List.map_cons, List.map_nil]); first | done | rfl | (simp only [List.length_drop, List.length_take]; rfl)) ?_
   with_reducible refine (agg_Join.calls t235 t236 t237 t238 t239 t240 t226 t227 t228 t229 t230 t231 t241 t242 t243 t244 t245 t246 _ A22.out).mono ?_
   rintro e w103 ⟨rfl, hb⟩
   refine ⟨_, rfl, ?_⟩
   replace HO198 := Aside0.mk (Kd.V_below HO198.out hb)
   replace HO203 := Aside0.mk (Kd.V_below HO203.out hb)
   replace HO214 := Aside0.mk (Kd.V_below HO214.out hb)
   replace HO225 := Aside0.mk (Kd.V_below HO225.out hb)
   replace BK232 := Aside0.mk (blk_below BK232.out hb)
   replace BK233 := Aside0.mk (blk_below BK233.out hb)
   replace BK234 := Aside0.mk (blk_below BK234.out hb)
   replace HB := Aside0.mk (below_step HB.out hb)
   (try clear hb)
   (try clear hb2)
   (try clear hk)
   (try clear hi)
   refine hK.out _ _ ⟨(blk_cell BK232.out 0).trans rfl, (blk_cell BK232.out 1).trans rfl, (blk_cell BK232.out 2).trans rfl, (blk_cell BK232.out 3).trans rfl, (blk_cell BK232.out 4).trans rfl, (blk_cell BK232.out 5).trans rfl, (blk_cell BK233.out 0).trans rfl, (blk_cell BK233.out 1).trans rfl, (blk_cell BK233.out 2).trans rfl, (blk_cell BK233.out 3).trans rfl, (blk_cell BK233.out 4).trans rfl, (blk_cell BK233.out 5).trans rfl, (blk_cell BK234.out 0).trans rfl, (blk_cell BK234.out 1).trans rfl, (blk_cell BK234.out 2).trans rfl, (blk_cell BK234.out 3).trans rfl, (blk_cell BK234.out 4).trans rfl, (blk_cell BK234.out 5).trans rfl⟩ (fun hHeld => ?_)
   clear hK K
   refine norm_ (a' := ?_) ?_ ?_
   rotate_left
   · show Act.put _ (some 52) _ = _
     simp only [Act.put, sA_, sB_, sC_, i64_w, i32_w]
     rfl
   refine one_ (i := 8) (N := some 54) (ra_ [9, 13]) rfl rfl (one_of HT_.out (by kernel_rfl)) (by decide) (fun K hK => ?_)
   refine goes_ Try.func29 (by kernel_rfl) rfl #[.slice Ao30 t196.length co30] (by rfl) rfl rfl (by (try simp only [List.map_toArray, List.map_cons, List.map_nil]); first | done | rfl | (simp only [List.length_drop, List.length_take]; rfl)) ?_
   with_reducible refine (agg_Of.calls k _ _ t196 t247 t248 t249 t250 t251 t252 _ ?side1 ?side2 A23.out).mono ?_
   (case side1 => repeat (first | exact (Kd.V_reads' HO198.out).2.2 | (with_reducible refine Kd.C_alloc ?_ _) | (with_reducible refine Kd.C_drewN ?_ _) | (with_reducible refine Kd.C_drew ?_)))
   (case side2 => exact (Kd.V_reads' HO198.out).2.1)
   rintro e w104 ⟨rfl, hb⟩
   refine ⟨_, rfl, ?_⟩
   replace HO198 := Aside0.mk (Kd.V_below HO198.out hb)
   replace HO203 := Aside0.mk (Kd.V_below HO203.out hb)
   replace HO214 := Aside0.mk (Kd.V_below HO214.out hb)
   replace HO225 := Aside0.mk (Kd.V_below HO225.out hb)
   replace BK232 := Aside0.mk (blk_below BK232.out hb)
   replace BK233 := Aside0.mk (blk_below BK233.out hb)
   replace BK234 := Aside0.mk (blk_below BK234.out hb)
   replace HB := Aside0.mk (below_step HB.out hb)
   (try clear hb)
   (try clear hb2)
   (try clear hk)
   (try clear hi)
   refine hK.out _ _ ⟨(blk_cell BK232.out 0).trans rfl, (blk_cell BK232.out 1).trans rfl, (blk_cell BK232.out 2).trans rfl, (blk_cell BK232.out 3).trans rfl, (blk_cell BK232.out 4).trans rfl, (blk_cell BK232.out 5).trans rfl, (blk_cell BK233.out 0).trans rfl, (blk_cell BK233.out 1).trans rfl, (blk_cell BK233.out 2).trans rfl, (blk_cell BK233.out 3).trans rfl, (blk_cell BK233.out 4).trans rfl, (blk_cell BK233.out 5).trans rfl, (blk_cell BK234.out 0).trans rfl, (blk_cell BK234.out 1).trans rfl, (blk_cell BK234.out 2).trans rfl, (blk_cell BK234.out 3).trans rfl, (blk_cell BK234.out 4).trans rfl, (blk_cell BK234.out 5).trans rfl⟩ (fun hHeld => ?_)
   clear hK K
   refine norm_ (a' := ?_) ?_ ?_
   rotate_left
   · show Act.put _ (some 54) _ = _
     simp only [Act.put, sA_, sB_, sC_, i64_w, i32_w]
     rfl
   refine pure_ (i := 9) (N := some 55) (v := ?_) (a' := ?_) (ra_ [10, 12]) rfl rfl (any_of HT_.out (by kernel_rfl)) (fun _ _ _ h => h) (Or.inl ⟨by rfl, ?_⟩) ?_ ?_
   rotate_left
   · intro w'
     go_simp
     with_reducible rfl
   rotate_left
   · simp only [Act.put, sA_, sB_, sC_, i64_w, i32_w]
     rfl
   refine pure_ (i := 10) (N := some 56) (v := ?_) (a' := ?_) (ra_ [11, 11]) rfl rfl (any_of HT_.out (by kernel_rfl)) (fun _ _ _ h => h) (Or.inl ⟨by rfl, ?_⟩) ?_ ?_
   rotate_left
   · intro w'
     go_simp
     with_reducible rfl
   rotate_left
   · simp only [Act.put, sA_, sB_, sC_, i64_w, i32_w]
     rfl
   refine pure_ (i := 11) (N := some 57) (v := ?_) (a' := ?_) (ra_ [12, 10]) rfl rfl (any_of HT_.out (by kernel_rfl)) (fun _ _ _ h => h) (Or.inl ⟨by rfl, ?_⟩) ?_ ?_
   rotate_left
   · intro w'
     go_simp
     with_reducible rfl
   rotate_left
   · simp only [Act.put, sA_, sB_, sC_, i64_w, i32_w]
     rfl
   refine pure_ (i := 12) (N := some 58) (v := undef) (a' := ?_) (ra_ [13, 9]) rfl rfl (any_of HT_.out (by kernel_rfl)) (fun _ _ _ h => h) (Or.inr ⟨by rfl, rfl⟩) ?_ ?_
   rotate_left
   · simp only [Act.put, sA_, sB_, sC_, i64_w, i32_w]
     rfl
   refine pure_ (i := 13) (N := some 59) (v := undef) (a' := ?_) (ra_ [14, 8]) rfl rfl (any_of HT_.out (by kernel_rfl)) (fun _ _ _ h => h) (Or.inr ⟨by rfl, rfl⟩) ?_ ?_
   rotate_left
   · simp only [Act.put, sA_, sB_, sC_, i64_w, i32_w]
     rfl
   refine pure_ (i := 14) (N := some 60) (v := undef) (a' := ?_) (ra_ [15, 7]) rfl rfl (any_of HT_.out (by kernel_rfl)) (fun _ _ _ h => h) (Or.inr ⟨by rfl, rfl⟩) ?_ ?_
   rotate_left
   · simp only [Act.put, sA_, sB_, sC_, i64_w, i32_w]
     rfl
   refine pure_ (i := 15) (N := some 61) (v := undef) (a' := ?_) (ra_ [16, 6]) rfl rfl (any_of HT_.out (by kernel_rfl)) (fun _ _ _ h => h) (Or.inr ⟨by rfl, rfl⟩) ?_ ?_
   rotate_left
   · simp only [Act.put, sA_, sB_, sC_, i64_w, i32_w]
     rfl
   refine pure_ (i := 16) (N := some 62) (v := undef) (a' := ?_) (ra_ [17, 5]) rfl rfl (any_of HT_.out (by kernel_rfl)) (fun _ _ _ h => h) (Or.inr ⟨by rfl, rfl⟩) ?_ ?_
   rotate_left
   · simp only [Act.put, sA_, sB_, sC_, i64_w, i32_w]
     rfl
   refine pure_ (i := 17) (N := some 63) (v := undef) (a' := ?_) (ra_ [18, 4]) rfl rfl (any_of HT_.out (by kernel_rfl)) (fun _ _ _ h => h) (Or.inr ⟨by rfl, rfl⟩) ?_ ?_
   rotate_left
   · simp only [Act.put, sA_, sB_, sC_, i64_w, i32_w]
     rfl
   refine pure_ (i := 18) (N := some 64) (v := undef) (a' := ?_) (ra_ [19, 3]) rfl rfl (any_of HT_.out (by kernel_rfl)) (fun _ _ _ h => h) (Or.inr ⟨by rfl, rfl⟩) ?_ ?_
   rotate_left
   · simp only [Act.put, sA_, sB_, sC_, i64_w, i32_w]
     rfl
   refine pure_ (i := 19) (N := some 65) (v := undef) (a' := ?_) (ra_ [20, 2]) rfl rfl (any_of HT_.out (by kernel_rfl)) (fun _ _ _ h => h) (Or.inr ⟨by rfl, rfl⟩) ?_ ?_
   rotate_left
   · simp only [Act.put, sA_, sB_, sC_, i64_w, i32_w]
     rfl
   refine pure_ (i := 20) (N := some 66) (v := ?_) (a' := ?_) (ra_ [21, 1]) rfl rfl (any_of HT_.out (by kernel_rfl)) (fun _ _ _ h => h) (Or.inl ⟨by rfl, ?_⟩) ?_ ?_
   rotate_left
   · intro w'
     go_simp
     with_reducible rfl
   rotate_left
   · simp only [Act.put, sA_, sB_, sC_, i64_w, i32_w]
     rfl
   refine pure_ (i := 21) (N := some 6) (v := ?_) (a' := ?_) (ra_ [22]) rfl rfl (any_of HT_.out (by kernel_rfl)) (fun _ _ _ h => h) (Or.inl ⟨by rfl, ?_⟩) ?_ ?_
   rotate_left
   · intro w'
     go_simp
     with_reducible rfl
   rotate_left
   · simp only [Act.put, sA_, sB_, sC_, i64_w, i32_w]
     rfl
   refine done_ (done_of HT_.out (by kernel_rfl)) ?_
   try go_wp2
   go_ret
   exact ⟨by first | rfl | (simp [errW_none, errW_some] <;> rfl) | (simp only [← hji8, ← hji16]; first | rfl | (simp [errW_none, errW_some] <;> rfl)) | (simp [*, errW_none, errW_some] <;> rfl), by repeat (first | (with_reducible first | exact HB.out | apply below_alloc | apply pw_below_drewN | apply below_drew1 | refine below_set ?_ GE232.out | refine below_set ?_ GE233.out | refine below_set ?_ GE234.out) | exact HB.out)⟩
 rw [if_pos c24] at H
 have c24b0 : (t241 == t247 && (t242 == t248 && (t243 == t249 && (t244 == t250 && (t245 == t251 && (t246 == t252)))))) = true := c24
 (try (have c24b1 : decide (t241 = t247 && (t242 == t248 && (t243 == t249 && (t244 == t250 && (t245 == t251 && (t246 == t252)))))) = true := by simpa using c24))
 (try (have c24b2 : (t241 == t247 && (t242 == t248 && (t243 == t249 && (t244 == t250 && (t245 == t251 && (t246 == t252)))))) = true := by simpa using c24))
 clear c24
 replace H := Option.bind_eq_some_iff.mp H
 obtain ⟨⟨t253, t254, t255, t256, t257, t258⟩, A250, H⟩ := H
 (try dsimp only at H)
 have A25 := Aside0.mk A250
 clear A250
 replace H := Option.bind_eq_some_iff.mp H
 obtain ⟨⟨t259, t260, t261, t262, t263, t264⟩, A260, H⟩ := H
 (try dsimp only at H)
 have A26 := Aside0.mk A260
 clear A260
 replace H := Option.bind_eq_some_iff.mp H
 obtain ⟨⟨t265, t266, t267, t268, t269, t270⟩, A270, H⟩ := H
 (try dsimp only at H)
 have A27 := Aside0.mk A270
 clear A270
 obtain rfl := Option.some.inj H
 refine start_ (n := 22) (S := fun w' => w'.cell? ⟨gb232, 0, none⟩ = some (.int .i64 t204) ∧ w'.cell? ⟨gb232, 1, none⟩ = some (.int .i64 t205) ∧ w'.cell? ⟨gb232, 2, none⟩ = some (.int .i64 t206) ∧ w'.cell? ⟨gb232, 3, none⟩ = some (.int .i64 t207) ∧ w'.cell? ⟨gb232, 4, none⟩ = some (.int .i64 t208) ∧ w'.cell? ⟨gb232, 5, none⟩ = some (.int .i64 t209) ∧ w'.cell? ⟨gb233, 0, none⟩ = some (.int .i64 t215) ∧ w'.cell? ⟨gb233, 1, none⟩ = some (.int .i64 t216) ∧ w'.cell? ⟨gb233, 2, none⟩ = some (.int .i64 t217) ∧ w'.cell? ⟨gb233, 3, none⟩ = some (.int .i64 t218) ∧ w'.cell? ⟨gb233, 4, none⟩ = some (.int .i64 t219) ∧ w'.cell? ⟨gb233, 5, none⟩ = some (.int .i64 t220) ∧ w'.cell? ⟨gb234, 0, none⟩ = some (.int .i64 t226) ∧ w'.cell? ⟨gb234, 1, none⟩ = some (.int .i64 t227) ∧ w'.cell? ⟨gb234, 2, none⟩ = some (.int .i64 t228) ∧ w'.cell? ⟨gb234, 3, none⟩ = some (.int .i64 t229) ∧ w'.cell? ⟨gb234, 4, none⟩ = some (.int .i64 t230) ∧ w'.cell? ⟨gb234, 5, none⟩ = some (.int .i64 t231)) (ds := []) (ra_ [0, 22]) (by kernel_rfl) rfl rfl ⟨(blk_cell BK232.out 0).trans rfl, (blk_cell BK232.out 1).trans rfl, (blk_cell BK232.out 2).trans rfl, (blk_cell BK232.out 3).trans rfl, (blk_cell BK232.out 4).trans rfl, (blk_cell BK232.out 5).trans rfl, (blk_cell BK233.out 0).trans rfl, (blk_cell BK233.out 1).trans rfl, (blk_cell BK233.out 2).trans rfl, (blk_cell BK233.out 3).trans rfl, (blk_cell BK233.out 4).trans rfl, (blk_cell BK233.out 5).trans rfl, (blk_cell BK234.out 0).trans rfl, (blk_cell BK234.out 1).trans rfl, (blk_cell BK234.out 2).trans rfl, (blk_cell BK234.out 3).trans rfl, (blk_cell BK234.out 4).trans rfl, (blk_cell BK234.out 5).trans rfl⟩ (fun hHeld => ?_); refine with_tabW marigraphlaw12_AggParts.tab6 marigraphlaw12_AggParts.bits6 (fun HT_ HW_ => ?_)
 generalize w60.drew = w61 at HO198 HO203 HO214 HO225 BK232 BK233 BK234 HB hHeld ⊢
 refine pure_ (i := 0) (N := some 46) (v := ?_) (a' := ?_) (ra_ [1, 21]) rfl rfl (any_of HT_.out (by kernel_rfl)) (fun _ _ _ h => h) (Or.inl ⟨by rfl, ?_⟩) ?_ ?_
 rotate_left
 · intro w'
   go_simp
   with_reducible rfl
 rotate_left
 · simp only [Act.put, sA_, sB_, sC_, i64_w, i32_w]
   rfl
 refine pure_ (i := 1) (N := some 47) (v := ?_) (a' := ?_) (ra_ [2, 20]) rfl rfl (any_of HT_.out (by kernel_rfl)) (fun _ _ _ h => h) (Or.inl ⟨by rfl, ?_⟩) ?_ ?_
 rotate_left
 · intro w'
   go_simp
   with_reducible rfl
 rotate_left
 · simp only [Act.put, sA_, sB_, sC_, i64_w, i32_w]
   rfl
 refine pure_ (i := 7) (N := some 53) (v := ?_) (a' := ?_) (ra_ [2, 5, 1, 14]) rfl rfl (any_of HT_.out (by kernel_rfl)) (fun _ _ _ h => h) (Or.inl ⟨by rfl, ?_⟩) ?_ ?_
 rotate_left
 · intro w'
   go_simp
   with_reducible rfl
 rotate_left
 · simp only [Act.put, sA_, sB_, sC_, i64_w, i32_w]
   rfl
 refine take_ (i := 2) (N := some 48) (v := ?_) (a' := ?_) (ra_ [3, 4, 1, 14]) rfl rfl (take_ofW HT_.out HW_.out (by kernel_rfl)) (fun _ _ _ h => h) (Or.inl ⟨by rfl, ?_⟩) hHeld ?_ ?_
 rotate_left
 · rintro w' ⟨s0, s1, s2, s3, s4, s5, s6, s7, s8, s9, s10, s11, s12, s13, s14, s15, s16, s17⟩
   go_simp
   with_reducible rfl
 rotate_left
 · simp only [Act.put, sA_, sB_, sC_, i64_w, i32_w]
   rfl
 refine take_ (i := 3) (N := some 49) (v := ?_) (a' := ?_) (ra_ [4, 3, 1, 14]) rfl rfl (take_ofW HT_.out HW_.out (by kernel_rfl)) (fun _ _ _ h => h) (Or.inl ⟨by rfl, ?_⟩) hHeld ?_ ?_
 rotate_left
 · rintro w' ⟨s0, s1, s2, s3, s4, s5, s6, s7, s8, s9, s10, s11, s12, s13, s14, s15, s16, s17⟩
   go_simp
   with_reducible rfl
 rotate_left
 · simp only [Act.put, sA_, sB_, sC_, i64_w, i32_w]
   rfl
 refine take_ (i := 5) (N := some 51) (v := ?_) (a' := ?_) (ra_ [4, 1, 1, 1, 1, 14]) rfl rfl (take_ofW HT_.out HW_.out (by kernel_rfl)) (fun _ _ _ h => h) (Or.inl ⟨by rfl, ?_⟩) hHeld ?_ ?_
 rotate_left
 · rintro w' ⟨s0, s1, s2, s3, s4, s5, s6, s7, s8, s9, s10, s11, s12, s13, s14, s15, s16, s17⟩
   go_simp
   with_reducible rfl
 rotate_left
 · simp only [Act.put, sA_, sB_, sC_, i64_w, i32_w]
   rfl
 refine one_ (i := 4) (N := some 50) (ra_ [6, 1, 1, 14]) rfl rfl (one_of HT_.out (by kernel_rfl)) (by decide) (fun K hK => ?_)
 refine goes_ Try.func32 (by kernel_rfl) rfl #[.agg #[.int .i64 t204, .int .i64 t205, .int .i64 t206, .int .i64 t207, .int .i64 t208, .int .i64 t209], .agg #[.int .i64 t215, .int .i64 t216, .int .i64 t217, .int .i64 t218, .int .i64 t219, .int .i64 t220]] (by rfl) rfl rfl (by (try simp only [List.map_toArray, List.map_cons, List.map_nil]); first | done | rfl | (simp only [List.length_drop, List.length_take]; rfl)) ?_
 with_reducible refine (agg_Join.calls t204 t205 t206 t207 t208 t209 t215 t216 t217 t218 t219 t220 t235 t236 t237 t238 t239 t240 _ A21.out).mono ?_
 rintro e w62 ⟨rfl, hb⟩
 refine ⟨_, rfl, ?_⟩
 replace HO198 := Aside0.mk (Kd.V_below HO198.out hb)
 replace HO203 := Aside0.mk (Kd.V_below HO203.out hb)
 replace HO214 := Aside0.mk (Kd.V_below HO214.out hb)
 replace HO225 := Aside0.mk (Kd.V_below HO225.out hb)
 replace BK232 := Aside0.mk (blk_below BK232.out hb)
 replace BK233 := Aside0.mk (blk_below BK233.out hb)
 replace BK234 := Aside0.mk (blk_below BK234.out hb)
 replace HB := Aside0.mk (below_step HB.out hb)
 (try clear hb)
 (try clear hb2)
 (try clear hk)
 (try clear hi)
 refine hK.out _ _ ⟨(blk_cell BK232.out 0).trans rfl, (blk_cell BK232.out 1).trans rfl, (blk_cell BK232.out 2).trans rfl, (blk_cell BK232.out 3).trans rfl, (blk_cell BK232.out 4).trans rfl, (blk_cell BK232.out 5).trans rfl, (blk_cell BK233.out 0).trans rfl, (blk_cell BK233.out 1).trans rfl, (blk_cell BK233.out 2).trans rfl, (blk_cell BK233.out 3).trans rfl, (blk_cell BK233.out 4).trans rfl, (blk_cell BK233.out 5).trans rfl, (blk_cell BK234.out 0).trans rfl, (blk_cell BK234.out 1).trans rfl, (blk_cell BK234.out 2).trans rfl, (blk_cell BK234.out 3).trans rfl, (blk_cell BK234.out 4).trans rfl, (blk_cell BK234.out 5).trans rfl⟩ (fun hHeld => ?_)
 clear hK K
 refine norm_ (a' := ?_) ?_ ?_
 rotate_left
 · show Act.put _ (some 50) _ = _
   simp only [Act.put, sA_, sB_, sC_, i64_w, i32_w]
   rfl
 refine one_ (i := 6) (N := some 52) (ra_ [8, 14]) rfl rfl (one_of HT_.out (by kernel_rfl)) (by decide) (fun K hK => ?_)
 refine goes_ Try.func32 (by kernel_rfl) rfl #[.agg #[.int .i64 t235, .int .i64 t236, .int .i64 t237, .int .i64 t238, .int .i64 t239, .int .i64 t240], .agg #[.int .i64 t226, .int .i64 t227, .int .i64 t228, .int .i64 t229, .int .i64 t230, .int .i64 t231]] (by rfl) rfl rfl (by (try simp only [List.map_toArray, List.map_cons, List.map_nil]); first | done | rfl | (simp only [List.length_drop, List.length_take]; rfl)) ?_
 with_reducible refine (agg_Join.calls t235 t236 t237 t238 t239 t240 t226 t227 t228 t229 t230 t231 t241 t242 t243 t244 t245 t246 _ A22.out).mono ?_
 rintro e w63 ⟨rfl, hb⟩
 refine ⟨_, rfl, ?_⟩
 replace HO198 := Aside0.mk (Kd.V_below HO198.out hb)
 replace HO203 := Aside0.mk (Kd.V_below HO203.out hb)
 replace HO214 := Aside0.mk (Kd.V_below HO214.out hb)
 replace HO225 := Aside0.mk (Kd.V_below HO225.out hb)
 replace BK232 := Aside0.mk (blk_below BK232.out hb)
 replace BK233 := Aside0.mk (blk_below BK233.out hb)
 replace BK234 := Aside0.mk (blk_below BK234.out hb)
 replace HB := Aside0.mk (below_step HB.out hb)
 (try clear hb)
 (try clear hb2)
 (try clear hk)
 (try clear hi)
 refine hK.out _ _ ⟨(blk_cell BK232.out 0).trans rfl, (blk_cell BK232.out 1).trans rfl, (blk_cell BK232.out 2).trans rfl, (blk_cell BK232.out 3).trans rfl, (blk_cell BK232.out 4).trans rfl, (blk_cell BK232.out 5).trans rfl, (blk_cell BK233.out 0).trans rfl, (blk_cell BK233.out 1).trans rfl, (blk_cell BK233.out 2).trans rfl, (blk_cell BK233.out 3).trans rfl, (blk_cell BK233.out 4).trans rfl, (blk_cell BK233.out 5).trans rfl, (blk_cell BK234.out 0).trans rfl, (blk_cell BK234.out 1).trans rfl, (blk_cell BK234.out 2).trans rfl, (blk_cell BK234.out 3).trans rfl, (blk_cell BK234.out 4).trans rfl, (blk_cell BK234.out 5).trans rfl⟩ (fun hHeld => ?_)
 clear hK K
 refine norm_ (a' := ?_) ?_ ?_
 rotate_left
 · show Act.put _ (some 52) _ = _
   simp only [Act.put, sA_, sB_, sC_, i64_w, i32_w]
   rfl
 refine one_ (i := 8) (N := some 54) (ra_ [9, 13]) rfl rfl (one_of HT_.out (by kernel_rfl)) (by decide) (fun K hK => ?_)
 refine goes_ Try.func29 (by kernel_rfl) rfl #[.slice Ao30 t196.length co30] (by rfl) rfl rfl (by (try simp only [List.map_toArray, List.map_cons, List.map_nil]); first | done | rfl | (simp only [List.length_drop, List.length_take]; rfl)) ?_
 with_reducible refine (agg_Of.calls k _ _ t196 t247 t248 t249 t250 t251 t252 _ ?side1 ?side2 A23.out).mono ?_
 (case side1 => repeat (first | exact (Kd.V_reads' HO198.out).2.2 | (with_reducible refine Kd.C_alloc ?_ _) | (with_reducible refine Kd.C_drewN ?_ _) | (with_reducible refine Kd.C_drew ?_)))
 (case side2 => exact (Kd.V_reads' HO198.out).2.1)
 rintro e w64 ⟨rfl, hb⟩
 refine ⟨_, rfl, ?_⟩
 replace HO198 := Aside0.mk (Kd.V_below HO198.out hb)
 replace HO203 := Aside0.mk (Kd.V_below HO203.out hb)
 replace HO214 := Aside0.mk (Kd.V_below HO214.out hb)
 replace HO225 := Aside0.mk (Kd.V_below HO225.out hb)
 replace BK232 := Aside0.mk (blk_below BK232.out hb)
 replace BK233 := Aside0.mk (blk_below BK233.out hb)
 replace BK234 := Aside0.mk (blk_below BK234.out hb)
 replace HB := Aside0.mk (below_step HB.out hb)
 (try clear hb)
 (try clear hb2)
 (try clear hk)
 (try clear hi)
 refine hK.out _ _ ⟨(blk_cell BK232.out 0).trans rfl, (blk_cell BK232.out 1).trans rfl, (blk_cell BK232.out 2).trans rfl, (blk_cell BK232.out 3).trans rfl, (blk_cell BK232.out 4).trans rfl, (blk_cell BK232.out 5).trans rfl, (blk_cell BK233.out 0).trans rfl, (blk_cell BK233.out 1).trans rfl, (blk_cell BK233.out 2).trans rfl, (blk_cell BK233.out 3).trans rfl, (blk_cell BK233.out 4).trans rfl, (blk_cell BK233.out 5).trans rfl, (blk_cell BK234.out 0).trans rfl, (blk_cell BK234.out 1).trans rfl, (blk_cell BK234.out 2).trans rfl, (blk_cell BK234.out 3).trans rfl, (blk_cell BK234.out 4).trans rfl, (blk_cell BK234.out 5).trans rfl⟩ (fun hHeld => ?_)
 clear hK K
 refine norm_ (a' := ?_) ?_ ?_
 rotate_left
 · show Act.put _ (some 54) _ = _
   simp only [Act.put, sA_, sB_, sC_, i64_w, i32_w]
   rfl
 refine pure_ (i := 9) (N := some 55) (v := ?_) (a' := ?_) (ra_ [10, 12]) rfl rfl (any_of HT_.out (by kernel_rfl)) (fun _ _ _ h => h) (Or.inl ⟨by rfl, ?_⟩) ?_ ?_
 rotate_left
 · intro w'
   go_simp
   with_reducible rfl
 rotate_left
 · simp only [Act.put, sA_, sB_, sC_, i64_w, i32_w]
   rfl
 refine pure_ (i := 10) (N := some 56) (v := ?_) (a' := ?_) (ra_ [11, 11]) rfl rfl (any_of HT_.out (by kernel_rfl)) (fun _ _ _ h => h) (Or.inl ⟨by rfl, ?_⟩) ?_ ?_
 rotate_left
 · intro w'
   go_simp
   with_reducible rfl
 rotate_left
 · simp only [Act.put, sA_, sB_, sC_, i64_w, i32_w]
   rfl
 refine pure_ (i := 11) (N := some 57) (v := ?_) (a' := ?_) (ra_ [12, 10]) rfl rfl (any_of HT_.out (by kernel_rfl)) (fun _ _ _ h => h) (Or.inl ⟨by rfl, ?_⟩) ?_ ?_
 rotate_left
 · intro w'
   go_simp
   with_reducible rfl
 rotate_left
 · simp only [Act.put, sA_, sB_, sC_, i64_w, i32_w]
   rfl
 refine pure_ (i := 17) (N := some 63) (v := ?_) (a' := ?_) (ra_ [12, 5, 1, 4]) rfl rfl (any_of HT_.out (by kernel_rfl)) (fun _ _ _ h => h) (Or.inl ⟨by rfl, ?_⟩) ?_ ?_
 rotate_left
 · intro w'
   go_simp
   with_reducible rfl
 rotate_left
 · simp only [Act.put, sA_, sB_, sC_, i64_w, i32_w]
   rfl
 refine take_ (i := 12) (N := some 58) (v := ?_) (a' := ?_) (ra_ [13, 4, 1, 4]) rfl rfl (take_ofW HT_.out HW_.out (by kernel_rfl)) (fun _ _ _ h => h) (Or.inl ⟨by rfl, ?_⟩) hHeld ?_ ?_
 rotate_left
 · rintro w' ⟨s0, s1, s2, s3, s4, s5, s6, s7, s8, s9, s10, s11, s12, s13, s14, s15, s16, s17⟩
   go_simp
   with_reducible rfl
 rotate_left
 · simp only [Act.put, sA_, sB_, sC_, i64_w, i32_w]
   rfl
 refine take_ (i := 13) (N := some 59) (v := ?_) (a' := ?_) (ra_ [14, 3, 1, 4]) rfl rfl (take_ofW HT_.out HW_.out (by kernel_rfl)) (fun _ _ _ h => h) (Or.inl ⟨by rfl, ?_⟩) hHeld ?_ ?_
 rotate_left
 · rintro w' ⟨s0, s1, s2, s3, s4, s5, s6, s7, s8, s9, s10, s11, s12, s13, s14, s15, s16, s17⟩
   go_simp
   with_reducible rfl
 rotate_left
 · simp only [Act.put, sA_, sB_, sC_, i64_w, i32_w]
   rfl
 refine take_ (i := 14) (N := some 60) (v := ?_) (a' := ?_) (ra_ [15, 2, 1, 4]) rfl rfl (take_ofW HT_.out HW_.out (by kernel_rfl)) (fun _ _ _ h => h) (Or.inl ⟨by rfl, ?_⟩) hHeld ?_ ?_
 rotate_left
 · rintro w' ⟨s0, s1, s2, s3, s4, s5, s6, s7, s8, s9, s10, s11, s12, s13, s14, s15, s16, s17⟩
   go_simp
   with_reducible rfl
 rotate_left
 · simp only [Act.put, sA_, sB_, sC_, i64_w, i32_w]
   rfl
 refine one_ (i := 15) (N := some 61) (ra_ [16, 1, 1, 4]) rfl rfl (one_of HT_.out (by kernel_rfl)) (by decide) (fun K hK => ?_)
 refine goes_ Try.func32 (by kernel_rfl) rfl #[.agg #[.int .i64 t215, .int .i64 t216, .int .i64 t217, .int .i64 t218, .int .i64 t219, .int .i64 t220], .agg #[.int .i64 t226, .int .i64 t227, .int .i64 t228, .int .i64 t229, .int .i64 t230, .int .i64 t231]] (by rfl) rfl rfl (by (try simp only [List.map_toArray, List.map_cons, List.map_nil]); first | done | rfl | (simp only [List.length_drop, List.length_take]; rfl)) ?_
 with_reducible refine (agg_Join.calls t215 t216 t217 t218 t219 t220 t226 t227 t228 t229 t230 t231 t253 t254 t255 t256 t257 t258 _ A25.out).mono ?_
 rintro e w65 ⟨rfl, hb⟩
 refine ⟨_, rfl, ?_⟩
 replace HO198 := Aside0.mk (Kd.V_below HO198.out hb)
 replace HO203 := Aside0.mk (Kd.V_below HO203.out hb)
 replace HO214 := Aside0.mk (Kd.V_below HO214.out hb)
 replace HO225 := Aside0.mk (Kd.V_below HO225.out hb)
 replace BK232 := Aside0.mk (blk_below BK232.out hb)
 replace BK233 := Aside0.mk (blk_below BK233.out hb)
 replace BK234 := Aside0.mk (blk_below BK234.out hb)
 replace HB := Aside0.mk (below_step HB.out hb)
 (try clear hb)
 (try clear hb2)
 (try clear hk)
 (try clear hi)
 refine hK.out _ _ ⟨(blk_cell BK232.out 0).trans rfl, (blk_cell BK232.out 1).trans rfl, (blk_cell BK232.out 2).trans rfl, (blk_cell BK232.out 3).trans rfl, (blk_cell BK232.out 4).trans rfl, (blk_cell BK232.out 5).trans rfl, (blk_cell BK233.out 0).trans rfl, (blk_cell BK233.out 1).trans rfl, (blk_cell BK233.out 2).trans rfl, (blk_cell BK233.out 3).trans rfl, (blk_cell BK233.out 4).trans rfl, (blk_cell BK233.out 5).trans rfl, (blk_cell BK234.out 0).trans rfl, (blk_cell BK234.out 1).trans rfl, (blk_cell BK234.out 2).trans rfl, (blk_cell BK234.out 3).trans rfl, (blk_cell BK234.out 4).trans rfl, (blk_cell BK234.out 5).trans rfl⟩ (fun hHeld => ?_)
 clear hK K
 refine norm_ (a' := ?_) ?_ ?_
 rotate_left
 · show Act.put _ (some 61) _ = _
   simp only [Act.put, sA_, sB_, sC_, i64_w, i32_w]
   rfl
 refine one_ (i := 16) (N := some 62) (ra_ [18, 4]) rfl rfl (one_of HT_.out (by kernel_rfl)) (by decide) (fun K hK => ?_)
 refine goes_ Try.func32 (by kernel_rfl) rfl #[.agg #[.int .i64 t204, .int .i64 t205, .int .i64 t206, .int .i64 t207, .int .i64 t208, .int .i64 t209], .agg #[.int .i64 t253, .int .i64 t254, .int .i64 t255, .int .i64 t256, .int .i64 t257, .int .i64 t258]] (by rfl) rfl rfl (by (try simp only [List.map_toArray, List.map_cons, List.map_nil]); first | done | rfl | (simp only [List.length_drop, List.length_take]; rfl)) ?_
 with_reducible refine (agg_Join.calls t204 t205 t206 t207 t208 t209 t253 t254 t255 t256 t257 t258 t259 t260 t261 t262 t263 t264 _ A26.out).mono ?_
 rintro e w66 ⟨rfl, hb⟩
 refine ⟨_, rfl, ?_⟩
 replace HO198 := Aside0.mk (Kd.V_below HO198.out hb)
 replace HO203 := Aside0.mk (Kd.V_below HO203.out hb)
 replace HO214 := Aside0.mk (Kd.V_below HO214.out hb)
 replace HO225 := Aside0.mk (Kd.V_below HO225.out hb)
 replace BK232 := Aside0.mk (blk_below BK232.out hb)
 replace BK233 := Aside0.mk (blk_below BK233.out hb)
 replace BK234 := Aside0.mk (blk_below BK234.out hb)
 replace HB := Aside0.mk (below_step HB.out hb)
 (try clear hb)
 (try clear hb2)
 (try clear hk)
 (try clear hi)
 refine hK.out _ _ ⟨(blk_cell BK232.out 0).trans rfl, (blk_cell BK232.out 1).trans rfl, (blk_cell BK232.out 2).trans rfl, (blk_cell BK232.out 3).trans rfl, (blk_cell BK232.out 4).trans rfl, (blk_cell BK232.out 5).trans rfl, (blk_cell BK233.out 0).trans rfl, (blk_cell BK233.out 1).trans rfl, (blk_cell BK233.out 2).trans rfl, (blk_cell BK233.out 3).trans rfl, (blk_cell BK233.out 4).trans rfl, (blk_cell BK233.out 5).trans rfl, (blk_cell BK234.out 0).trans rfl, (blk_cell BK234.out 1).trans rfl, (blk_cell BK234.out 2).trans rfl, (blk_cell BK234.out 3).trans rfl, (blk_cell BK234.out 4).trans rfl, (blk_cell BK234.out 5).trans rfl⟩ (fun hHeld => ?_)
 clear hK K
 refine norm_ (a' := ?_) ?_ ?_
 rotate_left
 · show Act.put _ (some 62) _ = _
   simp only [Act.put, sA_, sB_, sC_, i64_w, i32_w]
   rfl
 refine one_ (i := 18) (N := some 64) (ra_ [19, 3]) rfl rfl (one_of HT_.out (by kernel_rfl)) (by decide) (fun K hK => ?_)
 refine goes_ Try.func29 (by kernel_rfl) rfl #[.slice Ao30 t196.length co30] (by rfl) rfl rfl (by (try simp only [List.map_toArray, List.map_cons, List.map_nil]); first | done | rfl | (simp only [List.length_drop, List.length_take]; rfl)) ?_
 with_reducible refine (agg_Of.calls k _ _ t196 t265 t266 t267 t268 t269 t270 _ ?side1 ?side2 A27.out).mono ?_
 (case side1 => repeat (first | exact (Kd.V_reads' HO198.out).2.2 | (with_reducible refine Kd.C_alloc ?_ _) | (with_reducible refine Kd.C_drewN ?_ _) | (with_reducible refine Kd.C_drew ?_)))
 (case side2 => exact (Kd.V_reads' HO198.out).2.1)
 rintro e w67 ⟨rfl, hb⟩
 refine ⟨_, rfl, ?_⟩
 replace HO198 := Aside0.mk (Kd.V_below HO198.out hb)
 replace HO203 := Aside0.mk (Kd.V_below HO203.out hb)
 replace HO214 := Aside0.mk (Kd.V_below HO214.out hb)
 replace HO225 := Aside0.mk (Kd.V_below HO225.out hb)
 replace BK232 := Aside0.mk (blk_below BK232.out hb)
 replace BK233 := Aside0.mk (blk_below BK233.out hb)
 replace BK234 := Aside0.mk (blk_below BK234.out hb)
 replace HB := Aside0.mk (below_step HB.out hb)
 (try clear hb)
 (try clear hb2)
 (try clear hk)
 (try clear hi)
 refine hK.out _ _ ⟨(blk_cell BK232.out 0).trans rfl, (blk_cell BK232.out 1).trans rfl, (blk_cell BK232.out 2).trans rfl, (blk_cell BK232.out 3).trans rfl, (blk_cell BK232.out 4).trans rfl, (blk_cell BK232.out 5).trans rfl, (blk_cell BK233.out 0).trans rfl, (blk_cell BK233.out 1).trans rfl, (blk_cell BK233.out 2).trans rfl, (blk_cell BK233.out 3).trans rfl, (blk_cell BK233.out 4).trans rfl, (blk_cell BK233.out 5).trans rfl, (blk_cell BK234.out 0).trans rfl, (blk_cell BK234.out 1).trans rfl, (blk_cell BK234.out 2).trans rfl, (blk_cell BK234.out 3).trans rfl, (blk_cell BK234.out 4).trans rfl, (blk_cell BK234.out 5).trans rfl⟩ (fun hHeld => ?_)
 clear hK K
 refine norm_ (a' := ?_) ?_ ?_
 rotate_left
 · show Act.put _ (some 64) _ = _
   simp only [Act.put, sA_, sB_, sC_, i64_w, i32_w]
   rfl
 refine pure_ (i := 19) (N := some 65) (v := ?_) (a' := ?_) (ra_ [20, 2]) rfl rfl (any_of HT_.out (by kernel_rfl)) (fun _ _ _ h => h) (Or.inl ⟨by rfl, ?_⟩) ?_ ?_
 rotate_left
 · intro w'
   go_simp
   with_reducible rfl
 rotate_left
 · simp only [Act.put, sA_, sB_, sC_, i64_w, i32_w]
   rfl
 refine pure_ (i := 20) (N := some 66) (v := ?_) (a' := ?_) (ra_ [21, 1]) rfl rfl (any_of HT_.out (by kernel_rfl)) (fun _ _ _ h => h) (Or.inl ⟨by rfl, ?_⟩) ?_ ?_
 rotate_left
 · intro w'
   go_simp
   with_reducible rfl
 rotate_left
 · simp only [Act.put, sA_, sB_, sC_, i64_w, i32_w]
   rfl
 refine pure_ (i := 21) (N := some 6) (v := ?_) (a' := ?_) (ra_ [22]) rfl rfl (any_of HT_.out (by kernel_rfl)) (fun _ _ _ h => h) (Or.inl ⟨by rfl, ?_⟩) ?_ ?_
 rotate_left
 · intro w'
   go_simp
   with_reducible rfl
 rotate_left
 · simp only [Act.put, sA_, sB_, sC_, i64_w, i32_w]
   rfl
 refine done_ (done_of HT_.out (by kernel_rfl)) ?_
 try go_wp2
 go_ret
 exact ⟨by first | rfl | (simp [errW_none, errW_some] <;> rfl) | (simp only [← hji8, ← hji16]; first | rfl | (simp [errW_none, errW_some] <;> rfl)) | (simp [*, errW_none, errW_some] <;> rfl), by repeat (first | (with_reducible first | exact HB.out | apply below_alloc | apply pw_below_drewN | apply below_drew1 | refine below_set ?_ GE232.out | refine below_set ?_ GE233.out | refine below_set ?_ GE234.out) | exact HB.out)⟩

end Go.Proofs.Ytjkpdjadbeidnaa.X
