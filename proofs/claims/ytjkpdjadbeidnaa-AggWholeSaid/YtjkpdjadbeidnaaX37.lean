import Derived.Test.YtjkpdjadbeidnaaX0
import Derived.Test.YtjkpdjadbeidnaaX1
import Derived.Test.YtjkpdjadbeidnaaX4
import Derived.Test.YtjkpdjadbeidnaaX5
import Derived.Test.YtjkpdjadbeidnaaX6
import Derived.Test.YtjkpdjadbeidnaaX7
import Derived.Test.YtjkpdjadbeidnaaX13
import Derived.Test.YtjkpdjadbeidnaaX14
import Derived.Test.YtjkpdjadbeidnaaX15
import Derived.Test.YtjkpdjadbeidnaaX16
import Derived.Test.YtjkpdjadbeidnaaX18
import Derived.Test.YtjkpdjadbeidnaaX31
-- x
namespace Go.Proofs.Ytjkpdjadbeidnaa.X
open Go.RowKit Go.Proofs.YtjkpdjadbeidnaaW.PrintWords Go.Proofs.YtjkpdjadbeidnaaW.PrintLast Go.Proofs.YtjkpdjadbeidnaaW.PrintMore
attribute [local go_sem] max2_int min2_int max_two min_two max_three min_three max_four min_four   -- for this text's walks alone
set_option linter.unusedVariables false
set_option linter.unusedSimpArgs false

attribute [local go_sem high] idxA80
attribute [local go_sem high] eqA50
/-- Booleans, by the lengths of their runs, trues first. -/
def rl_ : Bool → List Nat → List Bool
 | _, [] => []
 | b, n :: l => List.replicate n b ++ rl_ (!b) l
abbrev ra_ (l : List Nat) : Array Bool := ⟨rl_ true l⟩
/-! ### marigraphlaw12_AggWhole: function 16 -/
mutual
def marigraphlaw12_AggWhole.l0 : Nat → Int → Int → Int → Bool → List (S68) → List (S33) → List (S33) → Int → Int → Option (Bool)
 | 0, _, _, _, _, _, _, _, _, _ => none
 | k + 1, x1, x2, x3, x9, x10, x12, x37, x38, x39 => if x39 < x38 then (if 0 ≤ x39 then (if x39 < (x37.length : Int) then (if ((rd_T33 x37 x39).f0) ≥ x1 then (if ((rd_T33 x37 x39).f0) < x2 then (if x12.length < 8796093022208 then (marigraphlaw12_AggWhole.l0 k x1 x2 x3 x9 x10 (x12 ++ [(⟨(rd_T33 x37 x39).f0, (rd_T33 x37 x39).f1⟩ : S33)]) x37 x38 (wrap64 (x39 + 1))) else (none)) else (marigraphlaw12_AggWhole.l0 k x1 x2 x3 x9 x10 x12 x37 x38 (wrap64 (x39 + 1)))) else (marigraphlaw12_AggWhole.l0 k x1 x2 x3 x9 x10 x12 x37 x38 (wrap64 (x39 + 1)))) else (none)) else (none)) else (marigraphlaw12_AggWhole.l1 k x1 x2 x3 x9 x10 x12 x10 (x10.length : Int) 0 0 0 0 0 0 0)
def marigraphlaw12_AggWhole.l1 : Nat → Int → Int → Int → Bool → List (S68) → List (S33) → List (S68) → Int → Int → Int → Int → Int → Int → Int → Int → Option (Bool)
 | 0, _, _, _, _, _, _, _, _, _, _, _, _, _, _, _ => none
 | k + 1, x1, x2, x3, x9, x10, x12, x59, x60, x61, x241000, x241001, x241002, x241003, x241004, x241005 => if x61 < x60 then (if 0 ≤ x61 then (if x61 < (x59.length : Int) then (if x3 < 1 then (marigraphlaw12_AggWhole.j2 k x1 x2 x3 x9 x10 x12 x59 x60 x61 true x241000 x241001 x241002 x241003 x241004 x241005 ((rd_T68 x59 x61).f0) ((rd_T68 x59 x61).f1.f0) ((rd_T68 x59 x61).f1.f1) ((rd_T68 x59 x61).f1.f2) ((rd_T68 x59 x61).f1.f3) ((rd_T68 x59 x61).f1.f4) ((rd_T68 x59 x61).f1.f5)) else (if ((rd_T68 x59 x61).f0) < x1 then (marigraphlaw12_AggWhole.j2 k x1 x2 x3 x9 x10 x12 x59 x60 x61 true x241000 x241001 x241002 x241003 x241004 x241005 ((rd_T68 x59 x61).f0) ((rd_T68 x59 x61).f1.f0) ((rd_T68 x59 x61).f1.f1) ((rd_T68 x59 x61).f1.f2) ((rd_T68 x59 x61).f1.f3) ((rd_T68 x59 x61).f1.f4) ((rd_T68 x59 x61).f1.f5)) else (if ((rd_T68 x59 x61).f0) ≥ x2 then (marigraphlaw12_AggWhole.j2 k x1 x2 x3 x9 x10 x12 x59 x60 x61 true x241000 x241001 x241002 x241003 x241004 x241005 ((rd_T68 x59 x61).f0) ((rd_T68 x59 x61).f1.f0) ((rd_T68 x59 x61).f1.f1) ((rd_T68 x59 x61).f1.f2) ((rd_T68 x59 x61).f1.f3) ((rd_T68 x59 x61).f1.f4) ((rd_T68 x59 x61).f1.f5)) else (if x3 = 0 then (none) else (if (Int.tmod (wrap64 (((rd_T68 x59 x61).f0) - x1)) x3) = 0 then (if x61 > 0 then (if 0 ≤ (wrap64 (x61 - 1)) then (if (wrap64 (x61 - 1)) < (x10.length : Int) then (if ((rd_T68 x59 x61).f0) ≤ ((rd_T68 x10 (wrap64 (x61 - 1))).f0) then (marigraphlaw12_AggWhole.j2 k x1 x2 x3 x9 x10 x12 x59 x60 x61 true x241000 x241001 x241002 x241003 x241004 x241005 ((rd_T68 x59 x61).f0) ((rd_T68 x59 x61).f1.f0) ((rd_T68 x59 x61).f1.f1) ((rd_T68 x59 x61).f1.f2) ((rd_T68 x59 x61).f1.f3) ((rd_T68 x59 x61).f1.f4) ((rd_T68 x59 x61).f1.f5)) else (marigraphlaw12_AggWhole.j2 k x1 x2 x3 x9 x10 x12 x59 x60 x61 (decide (((rd_T68 x59 x61).f1.f0) < 1)) x241000 x241001 x241002 x241003 x241004 x241005 ((rd_T68 x59 x61).f0) ((rd_T68 x59 x61).f1.f0) ((rd_T68 x59 x61).f1.f1) ((rd_T68 x59 x61).f1.f2) ((rd_T68 x59 x61).f1.f3) ((rd_T68 x59 x61).f1.f4) ((rd_T68 x59 x61).f1.f5))) else (none)) else (none)) else (marigraphlaw12_AggWhole.j2 k x1 x2 x3 x9 x10 x12 x59 x60 x61 (decide (((rd_T68 x59 x61).f1.f0) < 1)) x241000 x241001 x241002 x241003 x241004 x241005 ((rd_T68 x59 x61).f0) ((rd_T68 x59 x61).f1.f0) ((rd_T68 x59 x61).f1.f1) ((rd_T68 x59 x61).f1.f2) ((rd_T68 x59 x61).f1.f3) ((rd_T68 x59 x61).f1.f4) ((rd_T68 x59 x61).f1.f5))) else (marigraphlaw12_AggWhole.j2 k x1 x2 x3 x9 x10 x12 x59 x60 x61 true x241000 x241001 x241002 x241003 x241004 x241005 ((rd_T68 x59 x61).f0) ((rd_T68 x59 x61).f1.f0) ((rd_T68 x59 x61).f1.f1) ((rd_T68 x59 x61).f1.f2) ((rd_T68 x59 x61).f1.f3) ((rd_T68 x59 x61).f1.f4) ((rd_T68 x59 x61).f1.f5))))))) else (none)) else (none)) else (if x9 = true then (if (x10.length : Int) ≤ 200 then ((agg_Of.f k x12).bind fun bt241 => (some (x241000 == bt241.1 && (x241001 == bt241.2.1 && (x241002 == bt241.2.2.1 && (x241003 == bt241.2.2.2.1 && (x241004 == bt241.2.2.2.2.1 && (x241005 == bt241.2.2.2.2.2)))))))) else (some false)) else (some false))
def marigraphlaw12_AggWhole.j2 : Nat → Int → Int → Int → Bool → List (S68) → List (S33) → List (S68) → Int → Int → Bool → Int → Int → Int → Int → Int → Int → Int → Int → Int → Int → Int → Int → Int → Option (Bool)
 | 0, _, _, _, _, _, _, _, _, _, _, _, _, _, _, _, _, _, _, _, _, _, _, _ => none
 | k + 1, x1, x2, x3, x9, x10, x12, x59, x60, x61, x109, x241000, x241001, x241002, x241003, x241004, x241005, x249000, x249001, x249002, x249003, x249004, x249005, x249006 => if x109 = true then (some false) else ((agg_Join.f x241000 x241001 x241002 x241003 x241004 x241005 x249001 x249002 x249003 x249004 x249005 x249006).bind fun bt250 => (marigraphlaw12_AggWhole.l1 k x1 x2 x3 x9 x10 x12 x59 x60 (wrap64 (x61 + 1)) bt250.1 bt250.2.1 bt250.2.2.1 bt250.2.2.2.1 bt250.2.2.2.2.1 bt250.2.2.2.2.2))
end
def marigraphlaw12_AggWhole.f (k : Nat) (l0 : List (S33)) (a1 : Int) (a2 : Int) (a3 : Int) : Option (Bool) := (marigraphlaw12_shown.f k).bind fun t224 => ((marigraphlaw12_few.f l0).bind fun t225 => ((agg_Buckets.f k t225 a1 a2 a3).bind fun bt228 => (if bt228.2 = 0 then ((marigraphlaw12_few.f l0).bind fun t232 => (marigraphlaw12_AggWhole.l0 k a1 a2 a3 t224 bt228.1 ([] : List (S33)) t232 (t232.length : Int) 0)) else (if t224 = true then (some ((bt228.1.length : Int) == 0)) else (some false)))))
theorem marigraphlaw12_AggWhole.mono_l : ∀ k, (∀ y0 y1 y2 y3 y4 y5 y6 y7 y8, LeO (marigraphlaw12_AggWhole.l0 k y0 y1 y2 y3 y4 y5 y6 y7 y8) (marigraphlaw12_AggWhole.l0 (k + 1) y0 y1 y2 y3 y4 y5 y6 y7 y8)) ∧ (∀ y0 y1 y2 y3 y4 y5 y6 y7 y8 y9 y10 y11 y12 y13 y14, LeO (marigraphlaw12_AggWhole.l1 k y0 y1 y2 y3 y4 y5 y6 y7 y8 y9 y10 y11 y12 y13 y14) (marigraphlaw12_AggWhole.l1 (k + 1) y0 y1 y2 y3 y4 y5 y6 y7 y8 y9 y10 y11 y12 y13 y14)) ∧ (∀ y0 y1 y2 y3 y4 y5 y6 y7 y8 y9 y10 y11 y12 y13 y14 y15 y16 y17 y18 y19 y20 y21 y22, LeO (marigraphlaw12_AggWhole.j2 k y0 y1 y2 y3 y4 y5 y6 y7 y8 y9 y10 y11 y12 y13 y14 y15 y16 y17 y18 y19 y20 y21 y22) (marigraphlaw12_AggWhole.j2 (k + 1) y0 y1 y2 y3 y4 y5 y6 y7 y8 y9 y10 y11 y12 y13 y14 y15 y16 y17 y18 y19 y20 y21 y22))
 | 0 => ⟨fun _ _ _ _ _ _ _ _ _ r h => by simp [marigraphlaw12_AggWhole.l0] at h, fun _ _ _ _ _ _ _ _ _ _ _ _ _ _ _ r h => by simp [marigraphlaw12_AggWhole.l1] at h, fun _ _ _ _ _ _ _ _ _ _ _ _ _ _ _ _ _ _ _ _ _ _ _ r h => by simp [marigraphlaw12_AggWhole.j2] at h⟩
 | k + 1 => by
  obtain ⟨ih0, ih1, ih2⟩ := marigraphlaw12_AggWhole.mono_l k
  refine ⟨?_, ?_, ?_⟩
  ·
   intro y0 y1 y2 y3 y4 y5 y6 y7 y8
   unfold marigraphlaw12_AggWhole.l0
   repeat' first
   | (with_reducible exact ih0 _ _ _ _ _ _ _ _ _)
   | (with_reducible exact ih1 _ _ _ _ _ _ _ _ _ _ _ _ _ _ _)
   | (with_reducible exact ih2 _ _ _ _ _ _ _ _ _ _ _ _ _ _ _ _ _ _ _ _ _ _ _)
   | (with_reducible exact agg_Buckets.mono _ _ _ _ _)
   | (with_reducible exact agg_Of.mono _ _)
   | (with_reducible exact marigraphlaw12_shown.mono _)
   | (with_reducible exact LeO.refl _)
   | (with_reducible exact LeO.none _)
   | (with_reducible refine LeO.ite ?_ ?_)
   | (with_reducible refine LeO.bind ?_ (fun _ => ?_))
   | exact ih0 _ _ _ _ _ _ _ _ _
   | exact ih1 _ _ _ _ _ _ _ _ _ _ _ _ _ _ _
   | exact ih2 _ _ _ _ _ _ _ _ _ _ _ _ _ _ _ _ _ _ _ _ _ _ _
   | exact agg_Buckets.mono _ _ _ _ _
   | exact agg_Of.mono _ _
   | exact marigraphlaw12_shown.mono _
   | exact LeO.none _
   | refine LeO.ite ?_ ?_
   | refine LeO.bind ?_ (fun _ => ?_)
  ·
   intro y0 y1 y2 y3 y4 y5 y6 y7 y8 y9 y10 y11 y12 y13 y14
   unfold marigraphlaw12_AggWhole.l1
   repeat' first
   | (with_reducible exact ih0 _ _ _ _ _ _ _ _ _)
   | (with_reducible exact ih1 _ _ _ _ _ _ _ _ _ _ _ _ _ _ _)
   | (with_reducible exact ih2 _ _ _ _ _ _ _ _ _ _ _ _ _ _ _ _ _ _ _ _ _ _ _)
   | (with_reducible exact agg_Buckets.mono _ _ _ _ _)
   | (with_reducible exact agg_Of.mono _ _)
   | (with_reducible exact marigraphlaw12_shown.mono _)
   | (with_reducible exact LeO.refl _)
   | (with_reducible exact LeO.none _)
   | (with_reducible refine LeO.ite ?_ ?_)
   | (with_reducible refine LeO.bind ?_ (fun _ => ?_))
   | exact ih0 _ _ _ _ _ _ _ _ _
   | exact ih1 _ _ _ _ _ _ _ _ _ _ _ _ _ _ _
   | exact ih2 _ _ _ _ _ _ _ _ _ _ _ _ _ _ _ _ _ _ _ _ _ _ _
   | exact agg_Buckets.mono _ _ _ _ _
   | exact agg_Of.mono _ _
   | exact marigraphlaw12_shown.mono _
   | exact LeO.none _
   | refine LeO.ite ?_ ?_
   | refine LeO.bind ?_ (fun _ => ?_)
  ·
   intro y0 y1 y2 y3 y4 y5 y6 y7 y8 y9 y10 y11 y12 y13 y14 y15 y16 y17 y18 y19 y20 y21 y22
   unfold marigraphlaw12_AggWhole.j2
   repeat' first
   | (with_reducible exact ih0 _ _ _ _ _ _ _ _ _)
   | (with_reducible exact ih1 _ _ _ _ _ _ _ _ _ _ _ _ _ _ _)
   | (with_reducible exact ih2 _ _ _ _ _ _ _ _ _ _ _ _ _ _ _ _ _ _ _ _ _ _ _)
   | (with_reducible exact agg_Buckets.mono _ _ _ _ _)
   | (with_reducible exact agg_Of.mono _ _)
   | (with_reducible exact marigraphlaw12_shown.mono _)
   | (with_reducible exact LeO.refl _)
   | (with_reducible exact LeO.none _)
   | (with_reducible refine LeO.ite ?_ ?_)
   | (with_reducible refine LeO.bind ?_ (fun _ => ?_))
   | exact ih0 _ _ _ _ _ _ _ _ _
   | exact ih1 _ _ _ _ _ _ _ _ _ _ _ _ _ _ _
   | exact ih2 _ _ _ _ _ _ _ _ _ _ _ _ _ _ _ _ _ _ _ _ _ _ _
   | exact agg_Buckets.mono _ _ _ _ _
   | exact agg_Of.mono _ _
   | exact marigraphlaw12_shown.mono _
   | exact LeO.none _
   | refine LeO.ite ?_ ?_
   | refine LeO.bind ?_ (fun _ => ?_)
theorem marigraphlaw12_AggWhole.mono : ∀ a0 a1 a2 a3 k, LeO (marigraphlaw12_AggWhole.f k a0 a1 a2 a3) (marigraphlaw12_AggWhole.f (k + 1) a0 a1 a2 a3) := by
 intro a0 a1 a2 a3 k
 obtain ⟨ih0, ih1, ih2⟩ := marigraphlaw12_AggWhole.mono_l k
 unfold marigraphlaw12_AggWhole.f
 repeat' first
   | (with_reducible exact ih0 _ _ _ _ _ _ _ _ _)
   | (with_reducible exact ih1 _ _ _ _ _ _ _ _ _ _ _ _ _ _ _)
   | (with_reducible exact ih2 _ _ _ _ _ _ _ _ _ _ _ _ _ _ _ _ _ _ _ _ _ _ _)
   | (with_reducible exact agg_Buckets.mono _ _ _ _ _)
   | (with_reducible exact agg_Of.mono _ _)
   | (with_reducible exact marigraphlaw12_shown.mono _)
   | (with_reducible exact LeO.refl _)
   | (with_reducible exact LeO.none _)
   | (with_reducible refine LeO.ite ?_ ?_)
   | (with_reducible refine LeO.bind ?_ (fun _ => ?_))
   | exact ih0 _ _ _ _ _ _ _ _ _
   | exact ih1 _ _ _ _ _ _ _ _ _ _ _ _ _ _ _
   | exact ih2 _ _ _ _ _ _ _ _ _ _ _ _ _ _ _ _ _ _ _ _ _ _ _
   | exact agg_Buckets.mono _ _ _ _ _
   | exact agg_Of.mono _ _
   | exact marigraphlaw12_shown.mono _
   | exact LeO.none _
   | refine LeO.ite ?_ ?_
   | refine LeO.bind ?_ (fun _ => ?_)
def marigraphlaw12_AggWhole.T16 : Bool × List (List Nat × List Nat) := (true, [([], []), ([0], [0]), ([1], [1]), ([2], [2]), ([3, 2], [2, 3]), ([2], [2]), ([4, 5, 2], [2, 4, 5]), ([2, 6], [2, 6]), ([7, 2], [7]), ([8], [8]), ([9, 8], [8, 9]), ([8], [8]), ([10, 11, 8], [8, 10, 11]), ([8, 12], [8, 12]), ([13, 8], [13]), ([14], [14]), ([15, 14], [14, 15]), ([14], [14]), ([16, 17, 14], [14, 16, 17]), ([14], [14]), ([18, 19, 14], [14, 18, 19]), ([20, 14], [14, 20]), ([14, 21], [14, 21]), ([22, 14], [22]), ([23], [23]), ([24, 23], [23, 24]), ([25, 23, 23], [23, 25]), ([26], [26]), ([27, 26], [26, 27]), ([26], [26]), ([26], [26]), ([30, 26], [26, 30]), ([29, 31, 26], [26, 29, 31]), ([32, 26], [26, 32]), ([33, 26], [26, 33]), ([28, 34, 26], [26, 28, 34]), ([26, 35, 23], [23, 26, 35]), ([23, 36], [23, 36]), ([37, 26], [37]), ([38], [38]), ([39, 38], [38, 39]), ([40, 38], [38, 40]), ([41, 38], [38, 41]), ([38, 42], [38, 42])])
def marigraphlaw12_AggWhole.B16 : List Nat := [0, 1, 3, 7, 15, 7, 63, 127, 255, 511, 1023, 511, 4095, 8191, 16383, 32767, 65535, 32767, 262143, 32767, 1048575, 2097151, 4194303, 8388607, 16777215, 33554431, 67108863, 134217727, 268435455, 134217727, 134217727, 1207959551, 3892314111, 8187281407, 16777215999, 34359738367, 68719476735, 137438953471, 274877906943, 549755813887, 1099511627775, 2199023255551, 4398046511103, 8796093022207]
theorem marigraphlaw12_AggWhole.tab16 : rtab .any (opsOf Try.f16 16) = marigraphlaw12_AggWhole.T16 := by kernel_rfl
theorem marigraphlaw12_AggWhole.bits16 : waitsOk marigraphlaw12_AggWhole.T16.2 marigraphlaw12_AggWhole.B16 = true := by kernel_rfl
def marigraphlaw12_AggWhole.T20 : Bool × List (List Nat × List Nat) := (true, [([], []), ([0], [0]), ([1], [1]), ([2, 1], [1, 2]), ([3, 1], [1, 3]), ([1, 4], [1, 4]), ([5, 1], [5]), ([6], [6]), ([6], [6]), ([8, 6, 6], [6, 8]), ([7, 9, 6], [6, 7, 9]), ([6, 10], [6, 10]), ([11, 9, 0, 1, 2, 3, 4, 5, 6, 7, 8, 9, 10, 11], [11])])
def marigraphlaw12_AggWhole.B20 : List Nat := [0, 1, 3, 7, 15, 31, 63, 127, 127, 383, 1023, 2047, 4095]
theorem marigraphlaw12_AggWhole.tab20 : rtab .any (opsOf Try.f16 20) = marigraphlaw12_AggWhole.T20 := by kernel_rfl
theorem marigraphlaw12_AggWhole.bits20 : waitsOk marigraphlaw12_AggWhole.T20.2 marigraphlaw12_AggWhole.B20 = true := by kernel_rfl
set_option maxHeartbeats 8000000 in
set_option maxRecDepth 100000 in
theorem marigraphlaw12_AggWhole.calls (k : Nat) (A0 : Option Addr) (c0 : Nat) (l0 : List (S33)) (a1 : Int) (a2 : Int) (a3 : Int) (r : Bool) (w : World) (hr0 : Kd.C k33 w A0 l0.length l0) (hc0 : l0.length ≤ c0) (h : marigraphlaw12_AggWhole.f k l0 a1 a2 a3 = some r) :
  Calls Try.prog 16 #[.slice A0 l0.length c0, .int .i64 a1, .int .i64 a2, .int .i64 a3] w fun e w' => e = .returned (.bool r) ∧ Below w.heap.size w w' := by
 have hu33 := Try.underlying33
 have hu50 := Try.underlying50
 have hu68 := Try.underlying68
 have HR0 := Aside0.mk hr0
 have HC0 := Aside0.mk hc0
 clear hr0 hc0
 have HB := Aside0.mk (Below.refl w.heap.size w)
 have H : ((marigraphlaw12_shown.f k).bind fun t224 => ((marigraphlaw12_few.f l0).bind fun t225 => ((agg_Buckets.f k t225 a1 a2 a3).bind fun bt228 => (if bt228.2 = 0 then ((marigraphlaw12_few.f l0).bind fun t232 => (marigraphlaw12_AggWhole.l0 k a1 a2 a3 t224 bt228.1 ([] : List (S33)) t232 (t232.length : Int) 0)) else (if t224 = true then (some ((bt228.1.length : Int) == 0)) else (some false)))))) = some r := h
 clear h
 replace H := Option.bind_eq_some_iff.mp H
 obtain ⟨t224, A50, H⟩ := H
 replace H : ((marigraphlaw12_few.f l0).bind fun t225 => ((agg_Buckets.f k t225 a1 a2 a3).bind fun bt228 => (if bt228.2 = 0 then ((marigraphlaw12_few.f l0).bind fun t232 => (marigraphlaw12_AggWhole.l0 k a1 a2 a3 t224 bt228.1 ([] : List (S33)) t232 (t232.length : Int) 0)) else (if t224 = true then (some ((bt228.1.length : Int) == 0)) else (some false))))) = some r := H
 have A5 := Aside0.mk A50
 clear A50
 replace H := Option.bind_eq_some_iff.mp H
 obtain ⟨t225, A60, H⟩ := H
 replace H : ((agg_Buckets.f k t225 a1 a2 a3).bind fun bt228 => (if bt228.2 = 0 then ((marigraphlaw12_few.f l0).bind fun t232 => (marigraphlaw12_AggWhole.l0 k a1 a2 a3 t224 bt228.1 ([] : List (S33)) t232 (t232.length : Int) 0)) else (if t224 = true then (some ((bt228.1.length : Int) == 0)) else (some false)))) = some r := H
 have A6 := Aside0.mk A60
 clear A60
 replace H := Option.bind_eq_some_iff.mp H
 obtain ⟨⟨t228, t229⟩, A70, H⟩ := H
 replace H : (if t229 = 0 then ((marigraphlaw12_few.f l0).bind fun t232 => (marigraphlaw12_AggWhole.l0 k a1 a2 a3 t224 t228 ([] : List (S33)) t232 (t232.length : Int) 0)) else (if t224 = true then (some ((t228.length : Int) == 0)) else (some false))) = some r := H
 have A7 := Aside0.mk A70
 clear A70
 by_cases c8 : t229 = 0
 ·
  rw [if_pos c8] at H
  have c8b0 : (t229 == 0) = true := beq_iff_eq.mpr c8
  have c8b1 : (t229 != 0) = false := bne_eq_false_iff_eq.mpr c8
  clear c8
  replace H := Option.bind_eq_some_iff.mp H
  obtain ⟨t232, A90, H⟩ := H
  replace H : (marigraphlaw12_AggWhole.l0 k a1 a2 a3 t224 t228 ([] : List (S33)) t232 (t232.length : Int) 0) = some r := H
  have A9 := Aside0.mk A90
  clear A90
  have H' := Aside0.mk H
  clear H
  go_enter Try.func16, Try.ntmps16
  go_wp2_with (first | ((with_reducible refine gate_callee (f := 28) rfl ?_); refine goesL_ (some 18) rfl rfl Try.func28 (by kernel_rfl) rfl #[] rfl (by (try simp only [List.map_toArray, List.map_cons, List.map_nil]); first | done | rfl | (simp only [List.length_drop, List.length_take]; rfl)) ?_; (with_reducible refine (marigraphlaw12_shown.calls k  t224 _ A5.out).mono ?_); rintro e w10 ⟨rfl, hb⟩; refine ⟨_, rfl, ?_⟩; have n0_ := Aside0.mk (below_step (by repeat (first | (with_reducible first | exact HB.out | apply below_alloc | apply pw_below_drewN | apply below_drew1) | exact HB.out)) hb); clear HB; have HB := n0_; clear n0_; (try clear hb); (try clear hb2); (try clear hk); (try clear hi)) | ((with_reducible refine gate_callee (f := 30) rfl ?_); refine goesL_ (some 21) rfl rfl Try.func30 (by kernel_rfl) rfl #[.slice A0 l0.length c0] rfl (by (try simp only [List.map_toArray, List.map_cons, List.map_nil]); first | done | rfl | (simp only [List.length_drop, List.length_take]; rfl)) ?_; (with_reducible refine (marigraphlaw12_few.calls (fun k_ => k_ < w.heap.size) _ _ l0 t225 _ ?side1 A6.out).mono ?_); (case side1 => exact Kd.V_mk HC0.out (Kd.F_below (Kd.C_F k33_heap HR0.out) (by repeat (first | (with_reducible first | exact HB.out | apply below_alloc | apply pw_below_drewN | apply below_drew1) | exact HB.out)))); rintro e w11 ⟨v226, rfl, ho0, hb⟩; refine ⟨_, rfl, ?_⟩; have n0_ := Aside0.mk (Kd.V_lower (Kd.V_mono (ok' := fun k_ => True) ho0 (fun k_ hk_ => trivial)) (below_size (by repeat (first | (with_reducible first | exact HB.out | apply below_alloc | apply pw_below_drewN | apply below_drew1) | exact HB.out)))); have n1_ := Aside0.mk (below_step (by repeat (first | (with_reducible first | exact HB.out | apply below_alloc | apply pw_below_drewN | apply below_drew1) | exact HB.out)) hb); clear HB; have HO227 := n0_; have HB := n1_; clear n0_ n1_; (try clear hb); (try clear hb2); (try clear hk); (try clear hi); (try clear ho0); obtain ⟨Ao12, co12, eo12⟩ := Kd.V_slice HO227.out; subst eo12) | ((with_reducible refine gate_callee (f := 37) rfl ?_); refine goesL_ (some 25) rfl rfl Try.func37 (by kernel_rfl) rfl #[.slice Ao12 t225.length co12, .int .i64 a1, .int .i64 a2, .int .i64 a3] rfl (by (try simp only [List.map_toArray, List.map_cons, List.map_nil]); first | done | rfl | (simp only [List.length_drop, List.length_take]; rfl)) ?_; (with_reducible refine (agg_Buckets.calls k _ _ t225 a1 a2 a3 t228 t229 _ ?side1 ?side2 A7.out).mono ?_); (case side1 => repeat (first | exact (Kd.V_reads' HO227.out).2.2 | (with_reducible refine Kd.C_alloc ?_ _) | (with_reducible refine Kd.C_drewN ?_ _) | (with_reducible refine Kd.C_drew ?_))); (case side2 => exact (Kd.V_reads' HO227.out).2.1); rintro e w13 ⟨v230, rfl, ho0, hb⟩; refine ⟨_, rfl, ?_⟩; have n0_ := Aside0.mk (Kd.V_elder' (by (with_reducible repeat (first | apply Kd.V_alloc | apply Kd.V_drewN | apply Kd.V_drew)); exact HO227.out) (Kd.R_base ho0) hb); have n1_ := Aside0.mk (Kd.R_lower ho0 (below_size (by repeat (first | (with_reducible first | exact HB.out | apply below_alloc | apply pw_below_drewN | apply below_drew1) | exact HB.out)))); have n2_ := Aside0.mk (below_step (by repeat (first | (with_reducible first | exact HB.out | apply below_alloc | apply pw_below_drewN | apply below_drew1) | exact HB.out)) hb); clear HO227; clear HB; have HO227 := n0_; have HO231 := n1_; have HB := n2_; clear n0_ n1_ n2_; (try clear hb); (try clear hb2); (try clear hk); (try clear hi); (try clear ho0)) | ((with_reducible refine gate_callee (f := 30) rfl ?_); refine goesL_ (some 37) rfl rfl Try.func30 (by kernel_rfl) rfl #[.slice A0 l0.length c0] rfl (by (try simp only [List.map_toArray, List.map_cons, List.map_nil]); first | done | rfl | (simp only [List.length_drop, List.length_take]; rfl)) ?_; (with_reducible refine (marigraphlaw12_few.calls (fun k_ => k_ < w.heap.size) _ _ l0 t232 _ ?side1 A9.out).mono ?_); (case side1 => exact Kd.V_mk HC0.out (Kd.F_below (Kd.C_F k33_heap HR0.out) (by repeat (first | (with_reducible first | exact HB.out | apply below_alloc | apply pw_below_drewN | apply below_drew1) | exact HB.out)))); rintro e w14 ⟨v233, rfl, ho0, hb⟩; refine ⟨_, rfl, ?_⟩; have n0_ := Aside0.mk (Kd.V_below (by (with_reducible repeat (first | apply Kd.V_alloc | apply Kd.V_drewN | apply Kd.V_drew)); exact HO227.out) hb); have n1_ := Aside0.mk (Kd.R_below (by (with_reducible repeat (first | apply Kd.R_alloc | apply Kd.R_drewN | apply Kd.R_drew)); exact HO231.out) hb); have n2_ := Aside0.mk (Kd.V_lower (Kd.V_mono (ok' := fun k_ => some k_ ≠ (v230 : Value).ownBlock) ho0 (fun k_ hk_ => Or.elim hk_ (fun hs_ => fun e_ => Nat.not_le.2 hs_ (Kd.R_base HO231.out k_ e_.symm)) (fun hn_ => (Kd.fresh' (Kd.R_lt (by (with_reducible repeat (first | apply Kd.R_alloc | apply Kd.R_drewN | apply Kd.R_drew)); exact HO231.out)) k_ hn_)))) (below_size (by repeat (first | (with_reducible first | exact HB.out | apply below_alloc | apply pw_below_drewN | apply below_drew1) | exact HB.out)))); have n3_ := Aside0.mk (below_step (by repeat (first | (with_reducible first | exact HB.out | apply below_alloc | apply pw_below_drewN | apply below_drew1) | exact HB.out)) hb); clear HO227; clear HO231; clear HB; have HO227 := n0_; have HO231 := n1_; have HO234 := n2_; have HB := n3_; clear n0_ n1_ n2_ n3_; (try clear hb); (try clear hb2); (try clear hk); (try clear hi); (try clear ho0); obtain ⟨Ao15, co15, eo15⟩ := Kd.V_slice HO234.out; subst eo15))
  go_loopg [12, 39] k (fun kq v12 v39 w' => ∃ (x12_1 : List (S33)) (x39_1 : Int), v39 = .int .i64 x39_1 ∧ Aside0 (marigraphlaw12_AggWhole.l0 kq a1 a2 a3 t224 t228 x12_1 t232 (t232.length : Int) x39_1 = some r) ∧ Aside0 (kq ≤ k) ∧ Aside0 (Kd.R k68 68 w' w.heap.size (fun _ => True) v230 t228) ∧ Aside0 (Kd.R k33 33 w' w.heap.size (fun _ => True) v12 x12_1) ∧ Aside0 (Kd.V k33 33 w' w.heap.size (fun k_ => some k_ ≠ (v230 : Value).ownBlock ∧ some k_ ≠ (v12 : Value).ownBlock) (.slice Ao15 t232.length co15) t232) ∧ Aside0 (Below w.heap.size w w'))
  case atStart => exact ⟨(([] : List (S33))), (0), (by first | rfl | (simp; done) | (simp [*]; done) | (simp <;> grind)), H', ⟨Nat.le_refl _⟩, ⟨by (with_reducible repeat (first | apply Kd.R_alloc | apply Kd.R_drewN | apply Kd.R_drew)); exact HO231.out⟩, ⟨by first | exact Kd.R_nil _ _ _ _ _ | exact Kd.N_nil _ _ _ _ _ | exact Kd.V_nil _ _ _ _ _ | exact Kd.Q_nil _ _ _ _ _ | exact Kd.S_nil _ _ _ _ _⟩, ⟨by (with_reducible repeat (first | apply Kd.V_alloc | apply Kd.V_drewN | apply Kd.V_drew)); exact Kd.V_mono HO234.out (fun _ hk => ⟨hk, (by simp [Value.ownBlock])⟩)⟩, ⟨by repeat (first | (with_reducible first | exact HB.out | apply below_alloc | apply pw_below_drewN | apply below_drew1) | exact HB.out)⟩⟩
  case round =>
   clear H'
   try clear c1
   try clear c2
   try clear p2
   try clear c3
   try clear c8
   try clear c8b0
   try clear c8b1
   obtain ⟨x12_1, x39_1, rfl, HA, HK1, HO_10, HO_12, HO_37, HB⟩ := hrel
   cases gk with
   | zero => exact absurd HA.out (by simp [marigraphlaw12_AggWhole.l0])
   | succ k1 =>
    have H := HA.out
    clear HA
    simp only [marigraphlaw12_AggWhole.l0] at H
    by_cases c16 : x39_1 < (t232.length : Int)
    ·
     rw [if_pos c16] at H
     have c16b0 : decide (x39_1 < (t232.length : Int)) = true := decide_eq_true c16
     clear c16
     by_cases c17 : 0 ≤ x39_1
     ·
      rw [if_pos c17] at H
      have c17b0 : decide (0 ≤ x39_1) = true := decide_eq_true c17
      clear c17
      by_cases c18 : x39_1 < (t232.length : Int)
      ·
       rw [if_pos c18] at H
       have c18b0 : decide (x39_1 < (t232.length : Int)) = true := decide_eq_true c18
       clear c18
       by_cases c19 : ((rd_T33 t232 x39_1).f0) ≥ a1
       ·
        rw [if_pos c19] at H
        have c19b0 : decide (a1 ≤ ((rd_T33 t232 x39_1).f0)) = true := decide_eq_true c19
        clear c19
        by_cases c20 : ((rd_T33 t232 x39_1).f0) < a2
        ·
         rw [if_pos c20] at H
         have c20b0 : decide (((rd_T33 t232 x39_1).f0) < a2) = true := decide_eq_true c20
         clear c20
         by_cases c21 : x12_1.length < 8796093022208
         ·
          rw [if_pos c21] at H
          have LMc21 := Aside0.mk c21
          clear c21
          obtain ⟨y237, hy237⟩ : ∃ y_ : List (S33), y_ = (x12_1 ++ [(⟨(rd_T33 t232 x39_1).f0, (rd_T33 t232 x39_1).f1⟩ : S33)]) := ⟨_, rfl⟩
          replace H : (marigraphlaw12_AggWhole.l0 k1 a1 a2 a3 t224 t228 y237 t232 (t232.length : Int) (wrap64 (x39_1 + 1))) = some r := by first | (rw [hy237]; with_reducible exact H) | (have H2_ := (Option.bind_some _ _).symm.trans H; rw [hy237]; with_reducible exact H2_) | (have H2_ := (Option.bind_some _ _).symm.trans H; with_reducible exact H2_) | with_reducible exact H | (rw [hy237]; exact H) | exact H
          have Ny237 := Aside0.mk hy237
          clear hy237
          have H' := Aside0.mk H
          clear H
          have p235 : 0 ≤ (x39_1 : Int) := of_decide_eq_true (by first | (with_reducible assumption) | assumption)
          have q235 : x39_1 < (t232.length : Int) := of_decide_eq_true (by first | (with_reducible assumption) | assumption)
          obtain ⟨ad235, e235, hx235_0, hx235_1⟩ := at_T33 (Kd.V_reads' HO_37.out).2.2 x39_1 p235 q235
          cases e235
          replace p235 := eq_true p235
          replace q235 := eq_true q235
          go_wp2_with (first | ((with_reducible refine gate_dst (N := 14) rfl ?_); (try (refine gate_guard (by rfl) ?_; dsimp only)); refine box_event ?hg (N := 14) ?hd (cs := #[.int .i64 0, .int .i64 0]) (t := 33) ?hr ?_; (case hd => rfl); (case hg => rfl); (case hr => first | (go_simp; done) | (go_simp; rfl)); intro gb236 hg w22 hbox hb; have n0_ := Aside0.mk (Kd.R_below (by (with_reducible repeat (first | apply Kd.R_alloc | apply Kd.R_drewN | apply Kd.R_drew)); exact HO_10.out) hb); have n1_ := Aside0.mk (Kd.R_below (Kd.R_elderB (by (with_reducible repeat (first | apply Kd.R_alloc | apply Kd.R_drewN | apply Kd.R_drew)); exact HO_12.out) gb236 (Nat.le_of_eq hg.symm)) hb); have n2_ := Aside0.mk (Kd.V_below (Kd.V_elderB (by (with_reducible repeat (first | apply Kd.V_alloc | apply Kd.V_drewN | apply Kd.V_drew)); exact HO_37.out) gb236 (Nat.le_of_eq hg.symm)) hb); have n3_ := Aside0.mk (below_step (by repeat (first | (with_reducible first | exact HB.out | apply below_alloc | apply pw_below_drewN | apply below_drew1) | exact HB.out)) hb); have n4_ := Aside0.mk (hbox); have n5_ := Aside0.mk ((by rw [hg]; exact (below_size (by repeat (first | (with_reducible first | exact HB.out | apply below_alloc | apply pw_below_drewN | apply below_drew1) | exact HB.out))) : w.heap.size ≤ gb236)); have n6_ := Aside0.mk ((by rw [hg]; exact (below_size (by repeat (first | (with_reducible first | exact HB.out | apply below_alloc | apply pw_below_drewN | apply below_drew1) | exact HB.out))) : w.heap.size ≤ gb236)); clear HO_10; clear HO_12; clear HO_37; clear HB; have HO_10 := n0_; have HO_12 := n1_; have HO_37 := n2_; have HB := n3_; have BK236 := n4_; have GW236 := n5_; have GE236 := n6_; clear n0_ n1_ n2_ n3_ n4_ n5_ n6_; clear hb hbox hg; have hcz23_0 : w22.cell? ⟨gb236, 0, none⟩ = some (.int .i64 0) := (blk_cell BK236.out 0).trans rfl; have hcz23_1 : w22.cell? ⟨gb236, 1, none⟩ = some (.int .i64 0) := (blk_cell BK236.out 1).trans rfl; have hfz23_0 := blk_frozen BK236.out 0; have hfz23_1 := blk_frozen BK236.out 1) | ((with_reducible refine gate_builtin (b := .append) (xs := #[.tmp 53, .tmp 55]) rfl ?_); (try (refine gate_guard (by rfl) ?_; dsimp only)); at_builtin; refine Kd.R_append k33 (w0 := w) w.heap.size rfl (.tmp 53) (.tmp 55) 30 33 (.agg #[(.int .i64 0), (.int .i64 0)]) 16 rfl Try.underlying30 info33 rfl (by decide) (by omega) u12 x12_1 (⟨(rd_T33 t232 x39_1).f0, (rd_T33 t232 x39_1).f1⟩ : S33) [.int .i64 ((rd_T33 t232 x39_1).f0), .int .i64 ((rd_T33 t232 x39_1).f1)] (fun k_ => k_ ≠ gb236) (fun _ => False) rfl (by first | (go_simp; done) | (go_simp; rfl)) ?aP (fun _ hk => hk.elim) ?aF ?aO ?aB ?aS ?aL ?_; (case aP => exact k33_mkM _ _ _ (⟨(rd_T33 t232 x39_1).f0, (rd_T33 t232 x39_1).f1⟩ : S33)); (case aB => exact (by repeat (first | (with_reducible first | exact HB.out | apply below_alloc | apply pw_below_drewN | apply below_drew1 | refine below_set ?_ GE236.out) | exact HB.out))); (case aF => exact (fun k_ hk => Kd.freshB (g := gb236) (o := .cells #[.int .i64 ((rd_T33 t232 x39_1).f0), .int .i64 ((rd_T33 t232 x39_1).f1)] 33 (0, 0)) (by (with_reducible repeat (first | refine blk_drewN ?_ _ | refine blk_drew ?_ | refine blk_alloc ?_ _)); refine blk_put (cs := #[.int .i64 ((rd_T33 t232 x39_1).f0), .int .i64 0]) ?_ 1 _ rfl; (with_reducible repeat (first | refine blk_drewN ?_ _ | refine blk_drew ?_ | refine blk_alloc ?_ _)); refine blk_put (cs := #[.int .i64 0, .int .i64 0]) ?_ 0 _ rfl; (with_reducible repeat (first | refine blk_drewN ?_ _ | refine blk_drew ?_ | refine blk_alloc ?_ _)); exact BK236.out) k_ hk)); (case aO => exact (by (with_reducible repeat (first | apply Kd.R_alloc | apply Kd.R_drewN | apply Kd.R_drew)); exact Kd.R_mono (Kd.R_far (p := ⟨gb236, 1, none⟩) (Kd.R_far (p := ⟨gb236, 0, none⟩) (Kd.R_mono HO_12.out (fun k_ hk => (⟨hk, hk.2⟩ : _ ∧ k_ ≠ gb236))) (fun _ hk => hk.2) (.int .i64 ((rd_T33 t232 x39_1).f0))) (fun _ hk => hk.2) (.int .i64 ((rd_T33 t232 x39_1).f1))) (fun _ hk => hk.1.2))); (case aS => exact (below_size (by repeat (first | (with_reducible first | exact HB.out | apply below_alloc | apply pw_below_drewN | apply below_drew1 | refine below_set ?_ GE236.out) | exact HB.out)))); (case aL => have := LMc21.out; omega); intro v238 w24 ho hb hg hat; rw [← Ny237.out] at ho; have n0_ := Aside0.mk (Kd.R_over' (by (with_reducible repeat (first | apply Kd.R_alloc | apply Kd.R_drewN | apply Kd.R_drew)); exact (Kd.R_mono (Kd.R_far (p := ⟨gb236, 1, none⟩) (Kd.R_far (p := ⟨gb236, 0, none⟩) (Kd.R_types HO_10.out BK236.out (by decide)) (fun _ hk => hk.2) (.int .i64 ((rd_T33 t232 x39_1).f0))) (fun _ hk => hk.2) (.int .i64 ((rd_T33 t232 x39_1).f1))) (fun _ h_ => h_.1))) (Kd.R_typed (by (with_reducible repeat (first | apply Kd.R_alloc | apply Kd.R_drewN | apply Kd.R_drew)); exact (Kd.R_mono (Kd.R_far (p := ⟨gb236, 1, none⟩) (Kd.R_far (p := ⟨gb236, 0, none⟩) (Kd.R_mono HO_12.out (fun k_ hk => (⟨hk, hk.2⟩ : _ ∧ k_ ≠ gb236))) (fun _ hk => hk.2) (.int .i64 ((rd_T33 t232 x39_1).f0))) (fun _ hk => hk.2) (.int .i64 ((rd_T33 t232 x39_1).f1))) (fun _ h_ => h_.1)))) (by decide) hg); have n1_ := Aside0.mk (Kd.V_afterv (ok := (fun k_ => some k_ ≠ (v230 : Value).ownBlock ∧ k_ ≠ gb236)) (by (with_reducible repeat (first | apply Kd.V_alloc | apply Kd.V_drewN | apply Kd.V_drew)); exact Kd.V_mono (Kd.V_far (p := ⟨gb236, 1, none⟩) (Kd.V_far (p := ⟨gb236, 0, none⟩) (Kd.V_mono HO_37.out (fun k_ hk => (⟨hk, hk.2⟩ : _ ∧ k_ ≠ gb236))) (fun _ hk => hk.2) (.int .i64 ((rd_T33 t232 x39_1).f0))) (fun _ hk => hk.2) (.int .i64 ((rd_T33 t232 x39_1).f1))) (fun _ hk => ⟨⟨hk.1.1.1, hk.1.2⟩, hk.1.1.2⟩)) hg hat); have n2_ := Aside0.mk (blk_grown (g := gb236) (o := .cells #[.int .i64 ((rd_T33 t232 x39_1).f0), .int .i64 ((rd_T33 t232 x39_1).f1)] 33 (0, 0)) (by (with_reducible repeat (first | refine blk_drewN ?_ _ | refine blk_drew ?_ | refine blk_alloc ?_ _)); refine blk_put (cs := #[.int .i64 ((rd_T33 t232 x39_1).f0), .int .i64 0]) ?_ 1 _ rfl; (with_reducible repeat (first | refine blk_drewN ?_ _ | refine blk_drew ?_ | refine blk_alloc ?_ _)); refine blk_put (cs := #[.int .i64 0, .int .i64 0]) ?_ 0 _ rfl; (with_reducible repeat (first | refine blk_drewN ?_ _ | refine blk_drew ?_ | refine blk_alloc ?_ _)); exact BK236.out) hg (Kd.R_away HO_12.out (fun _ hk => hk.2))); have n3_ := Aside0.mk (hb); have n4_ := Aside0.mk (ho); clear HO_10; clear HO_37; clear BK236; clear HB; clear HO_12; have HO_10 := n0_; have HO_37 := n1_; have BK236 := n2_; have HB := n3_; have HO239 := n4_; clear n0_ n1_ n2_ n3_ n4_; clear ho hb hg hat))
          go_roundg k1
          case measure => have := HK1.out; omega
          case rel => exact ⟨(y237), (wrap64 (x39_1 + 1)), (by first | rfl | (simp; done) | (simp [*]; done) | (simp <;> grind)), H', ⟨by have := HK1.out; omega⟩, ⟨by (with_reducible repeat (first | apply Kd.R_alloc | apply Kd.R_drewN | apply Kd.R_drew)); exact HO_10.out⟩, ⟨by (with_reducible repeat (first | apply Kd.R_alloc | apply Kd.R_drewN | apply Kd.R_drew)); exact Kd.R_mono HO239.out (fun _ hk => trivial)⟩, ⟨by (with_reducible repeat (first | apply Kd.V_alloc | apply Kd.V_drewN | apply Kd.V_drew)); exact Kd.V_mono HO_37.out (fun _ hk => ⟨hk.1.1, hk.2⟩)⟩, ⟨by repeat (first | (with_reducible first | exact HB.out | apply below_alloc | apply pw_below_drewN | apply below_drew1 | refine below_set ?_ GE236.out) | exact HB.out)⟩⟩
         ·
          rw [if_neg c21] at H
          exact absurd H (by simp)
        ·
         rw [if_neg c20] at H
         have c20b0 : decide (((rd_T33 t232 x39_1).f0) < a2) = false := decide_eq_false c20
         clear c20
         have H' := Aside0.mk H
         clear H
         have p235 : 0 ≤ (x39_1 : Int) := of_decide_eq_true (by first | (with_reducible assumption) | assumption)
         have q235 : x39_1 < (t232.length : Int) := of_decide_eq_true (by first | (with_reducible assumption) | assumption)
         obtain ⟨ad235, e235, hx235_0, hx235_1⟩ := at_T33 (Kd.V_reads' HO_37.out).2.2 x39_1 p235 q235
         cases e235
         replace p235 := eq_true p235
         replace q235 := eq_true q235
         go_wp2_with (first | ((with_reducible refine gate_dst (N := 14) rfl ?_); (try (refine gate_guard (by rfl) ?_; dsimp only)); refine box_event ?hg (N := 14) ?hd (cs := #[.int .i64 0, .int .i64 0]) (t := 33) ?hr ?_; (case hd => rfl); (case hg => rfl); (case hr => first | (go_simp; done) | (go_simp; rfl)); intro gb236 hg w25 hbox hb; have n0_ := Aside0.mk (Kd.R_below (by (with_reducible repeat (first | apply Kd.R_alloc | apply Kd.R_drewN | apply Kd.R_drew)); exact HO_10.out) hb); have n1_ := Aside0.mk (Kd.R_below (Kd.R_elderB (by (with_reducible repeat (first | apply Kd.R_alloc | apply Kd.R_drewN | apply Kd.R_drew)); exact HO_12.out) gb236 (Nat.le_of_eq hg.symm)) hb); have n2_ := Aside0.mk (Kd.V_below (Kd.V_elderB (by (with_reducible repeat (first | apply Kd.V_alloc | apply Kd.V_drewN | apply Kd.V_drew)); exact HO_37.out) gb236 (Nat.le_of_eq hg.symm)) hb); have n3_ := Aside0.mk (below_step (by repeat (first | (with_reducible first | exact HB.out | apply below_alloc | apply pw_below_drewN | apply below_drew1) | exact HB.out)) hb); have n4_ := Aside0.mk (hbox); have n5_ := Aside0.mk ((by rw [hg]; exact (below_size (by repeat (first | (with_reducible first | exact HB.out | apply below_alloc | apply pw_below_drewN | apply below_drew1) | exact HB.out))) : w.heap.size ≤ gb236)); have n6_ := Aside0.mk ((by rw [hg]; exact (below_size (by repeat (first | (with_reducible first | exact HB.out | apply below_alloc | apply pw_below_drewN | apply below_drew1) | exact HB.out))) : w.heap.size ≤ gb236)); clear HO_10; clear HO_12; clear HO_37; clear HB; have HO_10 := n0_; have HO_12 := n1_; have HO_37 := n2_; have HB := n3_; have BK236 := n4_; have GW236 := n5_; have GE236 := n6_; clear n0_ n1_ n2_ n3_ n4_ n5_ n6_; clear hb hbox hg; have hcz26_0 : w25.cell? ⟨gb236, 0, none⟩ = some (.int .i64 0) := (blk_cell BK236.out 0).trans rfl; have hcz26_1 : w25.cell? ⟨gb236, 1, none⟩ = some (.int .i64 0) := (blk_cell BK236.out 1).trans rfl; have hfz26_0 := blk_frozen BK236.out 0; have hfz26_1 := blk_frozen BK236.out 1))
         go_roundg k1
         case measure => have := HK1.out; omega
         case rel => exact ⟨(x12_1), (wrap64 (x39_1 + 1)), (by first | rfl | (simp; done) | (simp [*]; done) | (simp <;> grind)), H', ⟨by have := HK1.out; omega⟩, ⟨by (with_reducible repeat (first | apply Kd.R_alloc | apply Kd.R_drewN | apply Kd.R_drew)); exact Kd.R_mono (Kd.R_far (p := ⟨gb236, 1, none⟩) (Kd.R_far (p := ⟨gb236, 0, none⟩) (Kd.R_types HO_10.out BK236.out (by decide)) (fun _ hk => hk.2) (.int .i64 ((rd_T33 t232 x39_1).f0))) (fun _ hk => hk.2) (.int .i64 ((rd_T33 t232 x39_1).f1))) (fun _ hk => trivial)⟩, ⟨by (with_reducible repeat (first | apply Kd.R_alloc | apply Kd.R_drewN | apply Kd.R_drew)); exact Kd.R_mono (Kd.R_far (p := ⟨gb236, 1, none⟩) (Kd.R_far (p := ⟨gb236, 0, none⟩) (Kd.R_mono HO_12.out (fun k_ hk => (⟨hk, hk.2⟩ : _ ∧ k_ ≠ gb236))) (fun _ hk => hk.2) (.int .i64 ((rd_T33 t232 x39_1).f0))) (fun _ hk => hk.2) (.int .i64 ((rd_T33 t232 x39_1).f1))) (fun _ hk => trivial)⟩, ⟨by (with_reducible repeat (first | apply Kd.V_alloc | apply Kd.V_drewN | apply Kd.V_drew)); exact Kd.V_mono (Kd.V_far (p := ⟨gb236, 1, none⟩) (Kd.V_far (p := ⟨gb236, 0, none⟩) (Kd.V_mono HO_37.out (fun k_ hk => (⟨hk, hk.2⟩ : _ ∧ k_ ≠ gb236))) (fun _ hk => hk.2) (.int .i64 ((rd_T33 t232 x39_1).f0))) (fun _ hk => hk.2) (.int .i64 ((rd_T33 t232 x39_1).f1))) (fun _ hk => ⟨hk.1.1.1, hk.1.1.2⟩)⟩, ⟨by repeat (first | (with_reducible first | exact HB.out | apply below_alloc | apply pw_below_drewN | apply below_drew1 | refine below_set ?_ GE236.out) | exact HB.out)⟩⟩
       ·
        rw [if_neg c19] at H
        have c19b0 : decide (a1 ≤ ((rd_T33 t232 x39_1).f0)) = false := decide_eq_false c19
        clear c19
        have H' := Aside0.mk H
        clear H
        have p235 : 0 ≤ (x39_1 : Int) := of_decide_eq_true (by first | (with_reducible assumption) | assumption)
        have q235 : x39_1 < (t232.length : Int) := of_decide_eq_true (by first | (with_reducible assumption) | assumption)
        obtain ⟨ad235, e235, hx235_0, hx235_1⟩ := at_T33 (Kd.V_reads' HO_37.out).2.2 x39_1 p235 q235
        cases e235
        replace p235 := eq_true p235
        replace q235 := eq_true q235
        go_wp2_with (first | ((with_reducible refine gate_dst (N := 14) rfl ?_); (try (refine gate_guard (by rfl) ?_; dsimp only)); refine box_event ?hg (N := 14) ?hd (cs := #[.int .i64 0, .int .i64 0]) (t := 33) ?hr ?_; (case hd => rfl); (case hg => rfl); (case hr => first | (go_simp; done) | (go_simp; rfl)); intro gb236 hg w27 hbox hb; have n0_ := Aside0.mk (Kd.R_below (by (with_reducible repeat (first | apply Kd.R_alloc | apply Kd.R_drewN | apply Kd.R_drew)); exact HO_10.out) hb); have n1_ := Aside0.mk (Kd.R_below (Kd.R_elderB (by (with_reducible repeat (first | apply Kd.R_alloc | apply Kd.R_drewN | apply Kd.R_drew)); exact HO_12.out) gb236 (Nat.le_of_eq hg.symm)) hb); have n2_ := Aside0.mk (Kd.V_below (Kd.V_elderB (by (with_reducible repeat (first | apply Kd.V_alloc | apply Kd.V_drewN | apply Kd.V_drew)); exact HO_37.out) gb236 (Nat.le_of_eq hg.symm)) hb); have n3_ := Aside0.mk (below_step (by repeat (first | (with_reducible first | exact HB.out | apply below_alloc | apply pw_below_drewN | apply below_drew1) | exact HB.out)) hb); have n4_ := Aside0.mk (hbox); have n5_ := Aside0.mk ((by rw [hg]; exact (below_size (by repeat (first | (with_reducible first | exact HB.out | apply below_alloc | apply pw_below_drewN | apply below_drew1) | exact HB.out))) : w.heap.size ≤ gb236)); have n6_ := Aside0.mk ((by rw [hg]; exact (below_size (by repeat (first | (with_reducible first | exact HB.out | apply below_alloc | apply pw_below_drewN | apply below_drew1) | exact HB.out))) : w.heap.size ≤ gb236)); clear HO_10; clear HO_12; clear HO_37; clear HB; have HO_10 := n0_; have HO_12 := n1_; have HO_37 := n2_; have HB := n3_; have BK236 := n4_; have GW236 := n5_; have GE236 := n6_; clear n0_ n1_ n2_ n3_ n4_ n5_ n6_; clear hb hbox hg; have hcz28_0 : w27.cell? ⟨gb236, 0, none⟩ = some (.int .i64 0) := (blk_cell BK236.out 0).trans rfl; have hcz28_1 : w27.cell? ⟨gb236, 1, none⟩ = some (.int .i64 0) := (blk_cell BK236.out 1).trans rfl; have hfz28_0 := blk_frozen BK236.out 0; have hfz28_1 := blk_frozen BK236.out 1))
        go_roundg k1
        case measure => have := HK1.out; omega
        case rel => exact ⟨(x12_1), (wrap64 (x39_1 + 1)), (by first | rfl | (simp; done) | (simp [*]; done) | (simp <;> grind)), H', ⟨by have := HK1.out; omega⟩, ⟨by (with_reducible repeat (first | apply Kd.R_alloc | apply Kd.R_drewN | apply Kd.R_drew)); exact Kd.R_mono (Kd.R_far (p := ⟨gb236, 1, none⟩) (Kd.R_far (p := ⟨gb236, 0, none⟩) (Kd.R_types HO_10.out BK236.out (by decide)) (fun _ hk => hk.2) (.int .i64 ((rd_T33 t232 x39_1).f0))) (fun _ hk => hk.2) (.int .i64 ((rd_T33 t232 x39_1).f1))) (fun _ hk => trivial)⟩, ⟨by (with_reducible repeat (first | apply Kd.R_alloc | apply Kd.R_drewN | apply Kd.R_drew)); exact Kd.R_mono (Kd.R_far (p := ⟨gb236, 1, none⟩) (Kd.R_far (p := ⟨gb236, 0, none⟩) (Kd.R_mono HO_12.out (fun k_ hk => (⟨hk, hk.2⟩ : _ ∧ k_ ≠ gb236))) (fun _ hk => hk.2) (.int .i64 ((rd_T33 t232 x39_1).f0))) (fun _ hk => hk.2) (.int .i64 ((rd_T33 t232 x39_1).f1))) (fun _ hk => trivial)⟩, ⟨by (with_reducible repeat (first | apply Kd.V_alloc | apply Kd.V_drewN | apply Kd.V_drew)); exact Kd.V_mono (Kd.V_far (p := ⟨gb236, 1, none⟩) (Kd.V_far (p := ⟨gb236, 0, none⟩) (Kd.V_mono HO_37.out (fun k_ hk => (⟨hk, hk.2⟩ : _ ∧ k_ ≠ gb236))) (fun _ hk => hk.2) (.int .i64 ((rd_T33 t232 x39_1).f0))) (fun _ hk => hk.2) (.int .i64 ((rd_T33 t232 x39_1).f1))) (fun _ hk => ⟨hk.1.1.1, hk.1.1.2⟩)⟩, ⟨by repeat (first | (with_reducible first | exact HB.out | apply below_alloc | apply pw_below_drewN | apply below_drew1 | refine below_set ?_ GE236.out) | exact HB.out)⟩⟩
      ·
       rw [if_neg c18] at H
       exact absurd H (by simp)
     ·
      rw [if_neg c17] at H
      exact absurd H (by simp)
    ·
     rw [if_neg c16] at H
     have c16b0 : decide (x39_1 < (t232.length : Int)) = false := decide_eq_false c16
     clear c16
     have H' := Aside0.mk H
     clear H
     go_wp2_with (first | ((with_reducible refine gate_dst (N := 15) rfl ?_); (try (refine gate_guard (by rfl) ?_; dsimp only)); refine box_event ?hg (N := 15) ?hd (cs := #[.int .i64 0, .int .i64 0, .int .i64 0, .int .i64 0, .int .i64 0, .int .i64 0]) (t := 50) ?hr ?_; (case hd => rfl); (case hg => rfl); (case hr => first | (go_simp; done) | (go_simp; rfl)); intro gb240 hg w29 hbox hb; have n0_ := Aside0.mk (Kd.R_below (by (with_reducible repeat (first | apply Kd.R_alloc | apply Kd.R_drewN | apply Kd.R_drew)); exact HO_10.out) hb); have n1_ := Aside0.mk (Kd.R_below (by (with_reducible repeat (first | apply Kd.R_alloc | apply Kd.R_drewN | apply Kd.R_drew)); exact HO_12.out) hb); have n2_ := Aside0.mk (Kd.V_below (Kd.V_elderB (by (with_reducible repeat (first | apply Kd.V_alloc | apply Kd.V_drewN | apply Kd.V_drew)); exact HO_37.out) gb240 (Nat.le_of_eq hg.symm)) hb); have n3_ := Aside0.mk (below_step (by repeat (first | (with_reducible first | exact HB.out | apply below_alloc | apply pw_below_drewN | apply below_drew1) | exact HB.out)) hb); have n4_ := Aside0.mk (hbox); have n5_ := Aside0.mk ((by rw [hg]; exact (below_size (by repeat (first | (with_reducible first | exact HB.out | apply below_alloc | apply pw_below_drewN | apply below_drew1) | exact HB.out))) : w.heap.size ≤ gb240)); have n6_ := Aside0.mk ((by rw [hg]; exact (below_size (by repeat (first | (with_reducible first | exact HB.out | apply below_alloc | apply pw_below_drewN | apply below_drew1) | exact HB.out))) : w.heap.size ≤ gb240)); clear HO_10; clear HO_12; clear HO_37; clear HB; have HO_10 := n0_; have HO_12 := n1_; have HO_37 := n2_; have HB := n3_; have BK240 := n4_; have GW240 := n5_; have GE240 := n6_; clear n0_ n1_ n2_ n3_ n4_ n5_ n6_; clear hb hbox hg; have hcz30_0 : w29.cell? ⟨gb240, 0, none⟩ = some (.int .i64 0) := (blk_cell BK240.out 0).trans rfl; have hcz30_1 : w29.cell? ⟨gb240, 1, none⟩ = some (.int .i64 0) := (blk_cell BK240.out 1).trans rfl; have hcz30_2 : w29.cell? ⟨gb240, 2, none⟩ = some (.int .i64 0) := (blk_cell BK240.out 2).trans rfl; have hcz30_3 : w29.cell? ⟨gb240, 3, none⟩ = some (.int .i64 0) := (blk_cell BK240.out 3).trans rfl; have hcz30_4 : w29.cell? ⟨gb240, 4, none⟩ = some (.int .i64 0) := (blk_cell BK240.out 4).trans rfl; have hcz30_5 : w29.cell? ⟨gb240, 5, none⟩ = some (.int .i64 0) := (blk_cell BK240.out 5).trans rfl; have hfz30_0 := blk_frozen BK240.out 0; have hfz30_1 := blk_frozen BK240.out 1; have hfz30_2 := blk_frozen BK240.out 2; have hfz30_3 := blk_frozen BK240.out 3; have hfz30_4 := blk_frozen BK240.out 4; have hfz30_5 := blk_frozen BK240.out 5; obtain ⟨Ao31, co31, eo31⟩ := Kd.R_slice HO_10.out; subst eo31))
     go_loopg [61] k1 (fun kq v61 w' => ∃ (x61_2 : Int) (x241000_2 : Int) (x241001_2 : Int) (x241002_2 : Int) (x241003_2 : Int) (x241004_2 : Int) (x241005_2 : Int), v61 = .int .i64 x61_2 ∧ Aside0 (marigraphlaw12_AggWhole.l1 kq a1 a2 a3 t224 t228 x12_1 t228 (t228.length : Int) x61_2 x241000_2 x241001_2 x241002_2 x241003_2 x241004_2 x241005_2 = some r) ∧ Aside0 (kq ≤ k1) ∧ Aside0 (Kd.R k68 68 w' w.heap.size (fun _ => True) (.slice Ao31 t228.length co31) t228) ∧ Aside0 (Kd.R k33 33 w' w.heap.size (fun _ => True) u12 x12_1) ∧ Aside0 (Kd.R k68 68 w' w.heap.size (fun _ => True) (.slice Ao31 t228.length co31) t228) ∧ Aside0 (w'.heap[gb240]? = some (.cells #[.int .i64 x241000_2, .int .i64 x241001_2, .int .i64 x241002_2, .int .i64 x241003_2, .int .i64 x241004_2, .int .i64 x241005_2] 50 (0, 0))) ∧ Aside0 (Below w.heap.size w w'))
     case atStart => exact ⟨(0), (0), (0), (0), (0), (0), (0), (by first | rfl | (simp; done) | (simp [*]; done) | (simp <;> grind)), H', ⟨Nat.le_refl _⟩, ⟨by (with_reducible repeat (first | apply Kd.R_alloc | apply Kd.R_drewN | apply Kd.R_drew)); exact Kd.R_mono (Kd.R_far (p := ⟨gb240, 5, none⟩) (Kd.R_far (p := ⟨gb240, 4, none⟩) (Kd.R_far (p := ⟨gb240, 3, none⟩) (Kd.R_far (p := ⟨gb240, 2, none⟩) (Kd.R_far (p := ⟨gb240, 1, none⟩) (Kd.R_far (p := ⟨gb240, 0, none⟩) (Kd.R_types HO_10.out BK240.out (by decide)) (fun _ hk => hk.2) (.int .i64 0)) (fun _ hk => hk.2) (.int .i64 0)) (fun _ hk => hk.2) (.int .i64 0)) (fun _ hk => hk.2) (.int .i64 0)) (fun _ hk => hk.2) (.int .i64 0)) (fun _ hk => hk.2) (.int .i64 0)) (fun _ hk => trivial)⟩, ⟨by (with_reducible repeat (first | apply Kd.R_alloc | apply Kd.R_drewN | apply Kd.R_drew)); exact Kd.R_mono (Kd.R_far (p := ⟨gb240, 5, none⟩) (Kd.R_far (p := ⟨gb240, 4, none⟩) (Kd.R_far (p := ⟨gb240, 3, none⟩) (Kd.R_far (p := ⟨gb240, 2, none⟩) (Kd.R_far (p := ⟨gb240, 1, none⟩) (Kd.R_far (p := ⟨gb240, 0, none⟩) (Kd.R_types HO_12.out BK240.out (by decide)) (fun _ hk => hk.2) (.int .i64 0)) (fun _ hk => hk.2) (.int .i64 0)) (fun _ hk => hk.2) (.int .i64 0)) (fun _ hk => hk.2) (.int .i64 0)) (fun _ hk => hk.2) (.int .i64 0)) (fun _ hk => hk.2) (.int .i64 0)) (fun _ hk => trivial)⟩, ⟨by (with_reducible repeat (first | apply Kd.R_alloc | apply Kd.R_drewN | apply Kd.R_drew)); exact Kd.R_mono (Kd.R_far (p := ⟨gb240, 5, none⟩) (Kd.R_far (p := ⟨gb240, 4, none⟩) (Kd.R_far (p := ⟨gb240, 3, none⟩) (Kd.R_far (p := ⟨gb240, 2, none⟩) (Kd.R_far (p := ⟨gb240, 1, none⟩) (Kd.R_far (p := ⟨gb240, 0, none⟩) (Kd.R_types HO_10.out BK240.out (by decide)) (fun _ hk => hk.2) (.int .i64 0)) (fun _ hk => hk.2) (.int .i64 0)) (fun _ hk => hk.2) (.int .i64 0)) (fun _ hk => hk.2) (.int .i64 0)) (fun _ hk => hk.2) (.int .i64 0)) (fun _ hk => hk.2) (.int .i64 0)) (fun _ hk => trivial)⟩, ⟨by (with_reducible repeat (first | refine blk_drewN ?_ _ | refine blk_drew ?_ | refine blk_alloc ?_ _)); refine blk_put (cs := #[.int .i64 0, .int .i64 0, .int .i64 0, .int .i64 0, .int .i64 0, .int .i64 0]) ?_ 5 _ rfl; (with_reducible repeat (first | refine blk_drewN ?_ _ | refine blk_drew ?_ | refine blk_alloc ?_ _)); refine blk_put (cs := #[.int .i64 0, .int .i64 0, .int .i64 0, .int .i64 0, .int .i64 0, .int .i64 0]) ?_ 4 _ rfl; (with_reducible repeat (first | refine blk_drewN ?_ _ | refine blk_drew ?_ | refine blk_alloc ?_ _)); refine blk_put (cs := #[.int .i64 0, .int .i64 0, .int .i64 0, .int .i64 0, .int .i64 0, .int .i64 0]) ?_ 3 _ rfl; (with_reducible repeat (first | refine blk_drewN ?_ _ | refine blk_drew ?_ | refine blk_alloc ?_ _)); refine blk_put (cs := #[.int .i64 0, .int .i64 0, .int .i64 0, .int .i64 0, .int .i64 0, .int .i64 0]) ?_ 2 _ rfl; (with_reducible repeat (first | refine blk_drewN ?_ _ | refine blk_drew ?_ | refine blk_alloc ?_ _)); refine blk_put (cs := #[.int .i64 0, .int .i64 0, .int .i64 0, .int .i64 0, .int .i64 0, .int .i64 0]) ?_ 1 _ rfl; (with_reducible repeat (first | refine blk_drewN ?_ _ | refine blk_drew ?_ | refine blk_alloc ?_ _)); refine blk_put (cs := #[.int .i64 0, .int .i64 0, .int .i64 0, .int .i64 0, .int .i64 0, .int .i64 0]) ?_ 0 _ rfl; (with_reducible repeat (first | refine blk_drewN ?_ _ | refine blk_drew ?_ | refine blk_alloc ?_ _)); exact BK240.out⟩, ⟨by repeat (first | (with_reducible first | exact HB.out | apply below_alloc | apply pw_below_drewN | apply below_drew1 | refine below_set ?_ GE240.out) | exact HB.out)⟩⟩
     case round =>
      clear H'
      try clear c1
      try clear c2
      try clear p2
      try clear q2
      try clear hx2
      try clear c3
      try clear p6
      try clear c8
      try clear c8b0
      try clear c8b1
      try clear c16
      try clear c16b0
      try clear c17
      try clear c17b0
      try clear c18
      try clear c18b0
      try clear c19
      try clear c19b0
      try clear c20
      try clear c20b0
      try clear c21
      try clear p23
      try clear q23
      try clear hx23
      try clear c28
      try clear c30
      try clear hcz23_0
      try clear hcz23_1
      try clear hcz26_0
      try clear hcz26_1
      try clear hcz28_0
      try clear hcz28_1
      try clear hcz30_0
      try clear hcz30_1
      try clear hcz30_2
      try clear hcz30_3
      try clear hcz30_4
      try clear hcz30_5
      try clear hfz23_0
      try clear hfz23_1
      try clear hfz26_0
      try clear hfz26_1
      try clear hfz28_0
      try clear hfz28_1
      try clear hfz30_0
      try clear hfz30_1
      try clear hfz30_2
      try clear hfz30_3
      try clear hfz30_4
      try clear hfz30_5
      try clear hx235_0
      try clear hx235_1
      try clear p2
      try clear p235
      try clear q235
      obtain ⟨x61_2, x241000_2, x241001_2, x241002_2, x241003_2, x241004_2, x241005_2, rfl, HA, HK2, HO_10, HO_12, HO_59, BK240, HB⟩ := hrel
      cases gk with
      | zero => exact absurd HA.out (by simp [marigraphlaw12_AggWhole.l1])
      | succ k2 =>
       have H := HA.out
       clear HA
       simp only [marigraphlaw12_AggWhole.l1] at H
       by_cases c32 : x61_2 < (t228.length : Int)
       ·
        rw [if_pos c32] at H
        have c32b0 : decide (x61_2 < (t228.length : Int)) = true := decide_eq_true c32
        clear c32
        by_cases c33 : 0 ≤ x61_2
        ·
         rw [if_pos c33] at H
         have c33b0 : decide (0 ≤ x61_2) = true := decide_eq_true c33
         clear c33
         by_cases c34 : x61_2 < (t228.length : Int)
         ·
          rw [if_pos c34] at H
          have c34b0 : decide (x61_2 < (t228.length : Int)) = true := decide_eq_true c34
          clear c34
          have HC35 := Aside0.mk H
          clear H
          have p247 : 0 ≤ (x61_2 : Int) := of_decide_eq_true (by first | (with_reducible assumption) | assumption)
          have q247 : x61_2 < (t228.length : Int) := of_decide_eq_true (by first | (with_reducible assumption) | assumption)
          obtain ⟨ad247, e247, hx247_0, hx247_1, hx247_2, hx247_3, hx247_4, hx247_5, hx247_6⟩ := at_T68 (Kd.R_reads' HO_59.out).2.2 x61_2 p247 q247
          cases e247
          replace p247 := eq_true p247
          replace q247 := eq_true q247
          go_upto_region 16 with (first | ((with_reducible refine gate_dst (N := 17) rfl ?_); (try (refine gate_guard (by rfl) ?_; dsimp only)); refine box_event ?hg (N := 17) ?hd (cs := #[.int .i64 0, .int .i64 0, .int .i64 0, .int .i64 0, .int .i64 0, .int .i64 0, .int .i64 0]) (t := 68) ?hr ?_; (case hd => rfl); (case hg => rfl); (case hr => first | (go_simp; done) | (go_simp; rfl)); intro gb248 hg w36 hbox hb; have n0_ := Aside0.mk (Kd.R_below (Kd.R_elderB (by (with_reducible repeat (first | apply Kd.R_alloc | apply Kd.R_drewN | apply Kd.R_drew)); exact HO_10.out) gb248 (Nat.le_of_eq hg.symm)) hb); have n1_ := Aside0.mk (Kd.R_below (by (with_reducible repeat (first | apply Kd.R_alloc | apply Kd.R_drewN | apply Kd.R_drew)); exact HO_12.out) hb); have n2_ := Aside0.mk (Kd.R_below (Kd.R_elderB (by (with_reducible repeat (first | apply Kd.R_alloc | apply Kd.R_drewN | apply Kd.R_drew)); exact HO_59.out) gb248 (Nat.le_of_eq hg.symm)) hb); have n3_ := Aside0.mk (blk_below (g := gb240) (o := .cells #[.int .i64 x241000_2, .int .i64 x241001_2, .int .i64 x241002_2, .int .i64 x241003_2, .int .i64 x241004_2, .int .i64 x241005_2] 50 (0, 0)) (by (with_reducible repeat (first | refine blk_drewN ?_ _ | refine blk_drew ?_ | refine blk_alloc ?_ _)); exact BK240.out) hb); have n4_ := Aside0.mk (below_step (by repeat (first | (with_reducible first | exact HB.out | apply below_alloc | apply pw_below_drewN | apply below_drew1 | refine below_set ?_ GE240.out) | exact HB.out)) hb); have n5_ := Aside0.mk (hbox); have n6_ := Aside0.mk ((by rw [hg]; exact (below_size (by repeat (first | (with_reducible first | exact HB.out | apply below_alloc | apply pw_below_drewN | apply below_drew1 | refine below_set ?_ GE240.out) | exact HB.out))) : w.heap.size ≤ gb248)); have n7_ := Aside0.mk ((by rw [hg]; exact (below_size (by repeat (first | (with_reducible first | exact HB.out | apply below_alloc | apply pw_below_drewN | apply below_drew1 | refine below_set ?_ GE240.out) | exact HB.out))) : w.heap.size ≤ gb248)); have n8_ := Aside0.mk ((by rw [hg]; exact Nat.ne_of_lt (blk_lt (g := gb240) (o := .cells #[.int .i64 x241000_2, .int .i64 x241001_2, .int .i64 x241002_2, .int .i64 x241003_2, .int .i64 x241004_2, .int .i64 x241005_2] 50 (0, 0)) (by (with_reducible repeat (first | refine blk_drewN ?_ _ | refine blk_drew ?_ | refine blk_alloc ?_ _)); exact BK240.out)) : gb240 ≠ gb248)); have n9_ := Aside0.mk ((by rw [hg]; exact Nat.ne_of_gt (blk_lt (g := gb240) (o := .cells #[.int .i64 x241000_2, .int .i64 x241001_2, .int .i64 x241002_2, .int .i64 x241003_2, .int .i64 x241004_2, .int .i64 x241005_2] 50 (0, 0)) (by (with_reducible repeat (first | refine blk_drewN ?_ _ | refine blk_drew ?_ | refine blk_alloc ?_ _)); exact BK240.out)) : gb248 ≠ gb240)); clear HO_10; clear HO_12; clear HO_59; clear BK240; clear HB; have HO_10 := n0_; have HO_12 := n1_; have HO_59 := n2_; have BK240 := n3_; have HB := n4_; have BK248 := n5_; have GW248 := n6_; have GE248 := n7_; have NB240_248 := n8_; have NB248_240 := n9_; clear n0_ n1_ n2_ n3_ n4_ n5_ n6_ n7_ n8_ n9_; clear hb hbox hg; have hnb37 := NB248_240.out; have hnc37 := NB240_248.out; have hcz38_0 : w36.cell? ⟨gb248, 0, none⟩ = some (.int .i64 0) := (blk_cell BK248.out 0).trans rfl; have hcz38_1 : w36.cell? ⟨gb248, 1, none⟩ = some (.int .i64 0) := (blk_cell BK248.out 1).trans rfl; have hcz38_2 : w36.cell? ⟨gb248, 2, none⟩ = some (.int .i64 0) := (blk_cell BK248.out 2).trans rfl; have hcz38_3 : w36.cell? ⟨gb248, 3, none⟩ = some (.int .i64 0) := (blk_cell BK248.out 3).trans rfl; have hcz38_4 : w36.cell? ⟨gb248, 4, none⟩ = some (.int .i64 0) := (blk_cell BK248.out 4).trans rfl; have hcz38_5 : w36.cell? ⟨gb248, 5, none⟩ = some (.int .i64 0) := (blk_cell BK248.out 5).trans rfl; have hcz38_6 : w36.cell? ⟨gb248, 6, none⟩ = some (.int .i64 0) := (blk_cell BK248.out 6).trans rfl; have hfz38_0 := blk_frozen BK248.out 0; have hfz38_1 := blk_frozen BK248.out 1; have hfz38_2 := blk_frozen BK248.out 2; have hfz38_3 := blk_frozen BK248.out 3; have hfz38_4 := blk_frozen BK248.out 4; have hfz38_5 := blk_frozen BK248.out 5; have hfz38_6 := blk_frozen BK248.out 6))
          (try simp only [Act.put, List.setIfInBounds_toArray, List.set_cons_zero, List.set_cons_succ])
          go_cut [109] (fun v109 wc => ∃ (kq : Nat) (x109_34 : Bool), v109 = .bool x109_34 ∧ Aside0 (marigraphlaw12_AggWhole.j2 kq a1 a2 a3 t224 t228 x12_1 t228 (t228.length : Int) x61_2 x109_34 x241000_2 x241001_2 x241002_2 x241003_2 x241004_2 x241005_2 ((rd_T68 t228 x61_2).f0) ((rd_T68 t228 x61_2).f1.f0) ((rd_T68 t228 x61_2).f1.f1) ((rd_T68 t228 x61_2).f1.f2) ((rd_T68 t228 x61_2).f1.f3) ((rd_T68 t228 x61_2).f1.f4) ((rd_T68 t228 x61_2).f1.f5) = some r) ∧ Aside0 (kq ≤ k2) ∧ Aside0 (Kd.R k68 68 wc w.heap.size (fun k_ => k_ ≠ gb248) (.slice (some ad247) t228.length co31) t228) ∧ Aside0 (Kd.R k33 33 wc w.heap.size (fun _ => True) u12 x12_1) ∧ Aside0 (Kd.R k68 68 wc w.heap.size (fun k_ => k_ ≠ gb248) (.slice (some ad247) t228.length co31) t228) ∧ Aside0 (wc.heap[gb240]? = some (.cells #[.int .i64 x241000_2, .int .i64 x241001_2, .int .i64 x241002_2, .int .i64 x241003_2, .int .i64 x241004_2, .int .i64 x241005_2] 50 (0, 0))) ∧ Aside0 (wc.heap[gb248]? = some (.cells #[.int .i64 ((rd_T68 t228 x61_2).f0), .int .i64 ((rd_T68 t228 x61_2).f1.f0), .int .i64 ((rd_T68 t228 x61_2).f1.f1), .int .i64 ((rd_T68 t228 x61_2).f1.f2), .int .i64 ((rd_T68 t228 x61_2).f1.f3), .int .i64 ((rd_T68 t228 x61_2).f1.f4), .int .i64 ((rd_T68 t228 x61_2).f1.f5)] 68 (0, 0))) ∧ Aside0 (Below w.heap.size w wc))
          case first =>
           have H := HC35.out
           clear HC35
           have n0_ : Aside0 (Kd.R k68 68 (((((((w36.setCell ⟨gb248, 0, none⟩ (.int .i64 ((rd_T68 t228 x61_2).f0))).setCell ⟨gb248, 1, none⟩ (.int .i64 ((rd_T68 t228 x61_2).f1.f0))).setCell ⟨gb248, 2, none⟩ (.int .i64 ((rd_T68 t228 x61_2).f1.f1))).setCell ⟨gb248, 3, none⟩ (.int .i64 ((rd_T68 t228 x61_2).f1.f2))).setCell ⟨gb248, 4, none⟩ (.int .i64 ((rd_T68 t228 x61_2).f1.f3))).setCell ⟨gb248, 5, none⟩ (.int .i64 ((rd_T68 t228 x61_2).f1.f4))).setCell ⟨gb248, 6, none⟩ (.int .i64 ((rd_T68 t228 x61_2).f1.f5))) w.heap.size (fun k_ => k_ ≠ gb248) (.slice (some ad247) t228.length co31) t228) := ⟨by (with_reducible repeat (first | apply Kd.R_alloc | apply Kd.R_drewN | apply Kd.R_drew)); exact Kd.R_mono (Kd.R_far (p := ⟨gb248, 6, none⟩) (Kd.R_far (p := ⟨gb248, 5, none⟩) (Kd.R_far (p := ⟨gb248, 4, none⟩) (Kd.R_far (p := ⟨gb248, 3, none⟩) (Kd.R_far (p := ⟨gb248, 2, none⟩) (Kd.R_far (p := ⟨gb248, 1, none⟩) (Kd.R_far (p := ⟨gb248, 0, none⟩) (Kd.R_mono HO_10.out (fun k_ hk => (⟨hk, hk.2⟩ : _ ∧ k_ ≠ gb248))) (fun _ hk => hk.2) (.int .i64 ((rd_T68 t228 x61_2).f0))) (fun _ hk => hk.2) (.int .i64 ((rd_T68 t228 x61_2).f1.f0))) (fun _ hk => hk.2) (.int .i64 ((rd_T68 t228 x61_2).f1.f1))) (fun _ hk => hk.2) (.int .i64 ((rd_T68 t228 x61_2).f1.f2))) (fun _ hk => hk.2) (.int .i64 ((rd_T68 t228 x61_2).f1.f3))) (fun _ hk => hk.2) (.int .i64 ((rd_T68 t228 x61_2).f1.f4))) (fun _ hk => hk.2) (.int .i64 ((rd_T68 t228 x61_2).f1.f5))) (fun _ hk => hk.1.2)⟩
           have n1_ : Aside0 (Kd.R k33 33 (((((((w36.setCell ⟨gb248, 0, none⟩ (.int .i64 ((rd_T68 t228 x61_2).f0))).setCell ⟨gb248, 1, none⟩ (.int .i64 ((rd_T68 t228 x61_2).f1.f0))).setCell ⟨gb248, 2, none⟩ (.int .i64 ((rd_T68 t228 x61_2).f1.f1))).setCell ⟨gb248, 3, none⟩ (.int .i64 ((rd_T68 t228 x61_2).f1.f2))).setCell ⟨gb248, 4, none⟩ (.int .i64 ((rd_T68 t228 x61_2).f1.f3))).setCell ⟨gb248, 5, none⟩ (.int .i64 ((rd_T68 t228 x61_2).f1.f4))).setCell ⟨gb248, 6, none⟩ (.int .i64 ((rd_T68 t228 x61_2).f1.f5))) w.heap.size (fun _ => True) u12 x12_1) := ⟨by (with_reducible repeat (first | apply Kd.R_alloc | apply Kd.R_drewN | apply Kd.R_drew)); exact Kd.R_mono (Kd.R_far (p := ⟨gb248, 6, none⟩) (Kd.R_far (p := ⟨gb248, 5, none⟩) (Kd.R_far (p := ⟨gb248, 4, none⟩) (Kd.R_far (p := ⟨gb248, 3, none⟩) (Kd.R_far (p := ⟨gb248, 2, none⟩) (Kd.R_far (p := ⟨gb248, 1, none⟩) (Kd.R_far (p := ⟨gb248, 0, none⟩) (Kd.R_types HO_12.out BK248.out (by decide)) (fun _ hk => hk.2) (.int .i64 ((rd_T68 t228 x61_2).f0))) (fun _ hk => hk.2) (.int .i64 ((rd_T68 t228 x61_2).f1.f0))) (fun _ hk => hk.2) (.int .i64 ((rd_T68 t228 x61_2).f1.f1))) (fun _ hk => hk.2) (.int .i64 ((rd_T68 t228 x61_2).f1.f2))) (fun _ hk => hk.2) (.int .i64 ((rd_T68 t228 x61_2).f1.f3))) (fun _ hk => hk.2) (.int .i64 ((rd_T68 t228 x61_2).f1.f4))) (fun _ hk => hk.2) (.int .i64 ((rd_T68 t228 x61_2).f1.f5))) (fun _ hk => trivial)⟩
           have n2_ : Aside0 (Kd.R k68 68 (((((((w36.setCell ⟨gb248, 0, none⟩ (.int .i64 ((rd_T68 t228 x61_2).f0))).setCell ⟨gb248, 1, none⟩ (.int .i64 ((rd_T68 t228 x61_2).f1.f0))).setCell ⟨gb248, 2, none⟩ (.int .i64 ((rd_T68 t228 x61_2).f1.f1))).setCell ⟨gb248, 3, none⟩ (.int .i64 ((rd_T68 t228 x61_2).f1.f2))).setCell ⟨gb248, 4, none⟩ (.int .i64 ((rd_T68 t228 x61_2).f1.f3))).setCell ⟨gb248, 5, none⟩ (.int .i64 ((rd_T68 t228 x61_2).f1.f4))).setCell ⟨gb248, 6, none⟩ (.int .i64 ((rd_T68 t228 x61_2).f1.f5))) w.heap.size (fun k_ => k_ ≠ gb248) (.slice (some ad247) t228.length co31) t228) := ⟨by (with_reducible repeat (first | apply Kd.R_alloc | apply Kd.R_drewN | apply Kd.R_drew)); exact Kd.R_mono (Kd.R_far (p := ⟨gb248, 6, none⟩) (Kd.R_far (p := ⟨gb248, 5, none⟩) (Kd.R_far (p := ⟨gb248, 4, none⟩) (Kd.R_far (p := ⟨gb248, 3, none⟩) (Kd.R_far (p := ⟨gb248, 2, none⟩) (Kd.R_far (p := ⟨gb248, 1, none⟩) (Kd.R_far (p := ⟨gb248, 0, none⟩) (Kd.R_mono HO_59.out (fun k_ hk => (⟨hk, hk.2⟩ : _ ∧ k_ ≠ gb248))) (fun _ hk => hk.2) (.int .i64 ((rd_T68 t228 x61_2).f0))) (fun _ hk => hk.2) (.int .i64 ((rd_T68 t228 x61_2).f1.f0))) (fun _ hk => hk.2) (.int .i64 ((rd_T68 t228 x61_2).f1.f1))) (fun _ hk => hk.2) (.int .i64 ((rd_T68 t228 x61_2).f1.f2))) (fun _ hk => hk.2) (.int .i64 ((rd_T68 t228 x61_2).f1.f3))) (fun _ hk => hk.2) (.int .i64 ((rd_T68 t228 x61_2).f1.f4))) (fun _ hk => hk.2) (.int .i64 ((rd_T68 t228 x61_2).f1.f5))) (fun _ hk => hk.1.2)⟩
           have n3_ : Aside0 ((((((((w36.setCell ⟨gb248, 0, none⟩ (.int .i64 ((rd_T68 t228 x61_2).f0))).setCell ⟨gb248, 1, none⟩ (.int .i64 ((rd_T68 t228 x61_2).f1.f0))).setCell ⟨gb248, 2, none⟩ (.int .i64 ((rd_T68 t228 x61_2).f1.f1))).setCell ⟨gb248, 3, none⟩ (.int .i64 ((rd_T68 t228 x61_2).f1.f2))).setCell ⟨gb248, 4, none⟩ (.int .i64 ((rd_T68 t228 x61_2).f1.f3))).setCell ⟨gb248, 5, none⟩ (.int .i64 ((rd_T68 t228 x61_2).f1.f4))).setCell ⟨gb248, 6, none⟩ (.int .i64 ((rd_T68 t228 x61_2).f1.f5))).heap[gb240]? = some (.cells #[.int .i64 x241000_2, .int .i64 x241001_2, .int .i64 x241002_2, .int .i64 x241003_2, .int .i64 x241004_2, .int .i64 x241005_2] 50 (0, 0))) := ⟨by (with_reducible repeat (first | refine blk_drewN ?_ _ | refine blk_drew ?_ | refine blk_alloc ?_ _)); refine blk_far ?_ NB240_248.out _; (with_reducible repeat (first | refine blk_drewN ?_ _ | refine blk_drew ?_ | refine blk_alloc ?_ _)); refine blk_far ?_ NB240_248.out _; (with_reducible repeat (first | refine blk_drewN ?_ _ | refine blk_drew ?_ | refine blk_alloc ?_ _)); refine blk_far ?_ NB240_248.out _; (with_reducible repeat (first | refine blk_drewN ?_ _ | refine blk_drew ?_ | refine blk_alloc ?_ _)); refine blk_far ?_ NB240_248.out _; (with_reducible repeat (first | refine blk_drewN ?_ _ | refine blk_drew ?_ | refine blk_alloc ?_ _)); refine blk_far ?_ NB240_248.out _; (with_reducible repeat (first | refine blk_drewN ?_ _ | refine blk_drew ?_ | refine blk_alloc ?_ _)); refine blk_far ?_ NB240_248.out _; (with_reducible repeat (first | refine blk_drewN ?_ _ | refine blk_drew ?_ | refine blk_alloc ?_ _)); refine blk_far ?_ NB240_248.out _; (with_reducible repeat (first | refine blk_drewN ?_ _ | refine blk_drew ?_ | refine blk_alloc ?_ _)); exact BK240.out⟩
           have n4_ : Aside0 ((((((((w36.setCell ⟨gb248, 0, none⟩ (.int .i64 ((rd_T68 t228 x61_2).f0))).setCell ⟨gb248, 1, none⟩ (.int .i64 ((rd_T68 t228 x61_2).f1.f0))).setCell ⟨gb248, 2, none⟩ (.int .i64 ((rd_T68 t228 x61_2).f1.f1))).setCell ⟨gb248, 3, none⟩ (.int .i64 ((rd_T68 t228 x61_2).f1.f2))).setCell ⟨gb248, 4, none⟩ (.int .i64 ((rd_T68 t228 x61_2).f1.f3))).setCell ⟨gb248, 5, none⟩ (.int .i64 ((rd_T68 t228 x61_2).f1.f4))).setCell ⟨gb248, 6, none⟩ (.int .i64 ((rd_T68 t228 x61_2).f1.f5))).heap[gb248]? = some (.cells #[.int .i64 ((rd_T68 t228 x61_2).f0), .int .i64 ((rd_T68 t228 x61_2).f1.f0), .int .i64 ((rd_T68 t228 x61_2).f1.f1), .int .i64 ((rd_T68 t228 x61_2).f1.f2), .int .i64 ((rd_T68 t228 x61_2).f1.f3), .int .i64 ((rd_T68 t228 x61_2).f1.f4), .int .i64 ((rd_T68 t228 x61_2).f1.f5)] 68 (0, 0))) := ⟨by (with_reducible repeat (first | refine blk_drewN ?_ _ | refine blk_drew ?_ | refine blk_alloc ?_ _)); refine blk_put (cs := #[.int .i64 ((rd_T68 t228 x61_2).f0), .int .i64 ((rd_T68 t228 x61_2).f1.f0), .int .i64 ((rd_T68 t228 x61_2).f1.f1), .int .i64 ((rd_T68 t228 x61_2).f1.f2), .int .i64 ((rd_T68 t228 x61_2).f1.f3), .int .i64 ((rd_T68 t228 x61_2).f1.f4), .int .i64 0]) ?_ 6 _ rfl; (with_reducible repeat (first | refine blk_drewN ?_ _ | refine blk_drew ?_ | refine blk_alloc ?_ _)); refine blk_put (cs := #[.int .i64 ((rd_T68 t228 x61_2).f0), .int .i64 ((rd_T68 t228 x61_2).f1.f0), .int .i64 ((rd_T68 t228 x61_2).f1.f1), .int .i64 ((rd_T68 t228 x61_2).f1.f2), .int .i64 ((rd_T68 t228 x61_2).f1.f3), .int .i64 0, .int .i64 0]) ?_ 5 _ rfl; (with_reducible repeat (first | refine blk_drewN ?_ _ | refine blk_drew ?_ | refine blk_alloc ?_ _)); refine blk_put (cs := #[.int .i64 ((rd_T68 t228 x61_2).f0), .int .i64 ((rd_T68 t228 x61_2).f1.f0), .int .i64 ((rd_T68 t228 x61_2).f1.f1), .int .i64 ((rd_T68 t228 x61_2).f1.f2), .int .i64 0, .int .i64 0, .int .i64 0]) ?_ 4 _ rfl; (with_reducible repeat (first | refine blk_drewN ?_ _ | refine blk_drew ?_ | refine blk_alloc ?_ _)); refine blk_put (cs := #[.int .i64 ((rd_T68 t228 x61_2).f0), .int .i64 ((rd_T68 t228 x61_2).f1.f0), .int .i64 ((rd_T68 t228 x61_2).f1.f1), .int .i64 0, .int .i64 0, .int .i64 0, .int .i64 0]) ?_ 3 _ rfl; (with_reducible repeat (first | refine blk_drewN ?_ _ | refine blk_drew ?_ | refine blk_alloc ?_ _)); refine blk_put (cs := #[.int .i64 ((rd_T68 t228 x61_2).f0), .int .i64 ((rd_T68 t228 x61_2).f1.f0), .int .i64 0, .int .i64 0, .int .i64 0, .int .i64 0, .int .i64 0]) ?_ 2 _ rfl; (with_reducible repeat (first | refine blk_drewN ?_ _ | refine blk_drew ?_ | refine blk_alloc ?_ _)); refine blk_put (cs := #[.int .i64 ((rd_T68 t228 x61_2).f0), .int .i64 0, .int .i64 0, .int .i64 0, .int .i64 0, .int .i64 0, .int .i64 0]) ?_ 1 _ rfl; (with_reducible repeat (first | refine blk_drewN ?_ _ | refine blk_drew ?_ | refine blk_alloc ?_ _)); refine blk_put (cs := #[.int .i64 0, .int .i64 0, .int .i64 0, .int .i64 0, .int .i64 0, .int .i64 0, .int .i64 0]) ?_ 0 _ rfl; (with_reducible repeat (first | refine blk_drewN ?_ _ | refine blk_drew ?_ | refine blk_alloc ?_ _)); exact BK248.out⟩
           have n5_ : Aside0 (Below w.heap.size w (((((((w36.setCell ⟨gb248, 0, none⟩ (.int .i64 ((rd_T68 t228 x61_2).f0))).setCell ⟨gb248, 1, none⟩ (.int .i64 ((rd_T68 t228 x61_2).f1.f0))).setCell ⟨gb248, 2, none⟩ (.int .i64 ((rd_T68 t228 x61_2).f1.f1))).setCell ⟨gb248, 3, none⟩ (.int .i64 ((rd_T68 t228 x61_2).f1.f2))).setCell ⟨gb248, 4, none⟩ (.int .i64 ((rd_T68 t228 x61_2).f1.f3))).setCell ⟨gb248, 5, none⟩ (.int .i64 ((rd_T68 t228 x61_2).f1.f4))).setCell ⟨gb248, 6, none⟩ (.int .i64 ((rd_T68 t228 x61_2).f1.f5)))) := ⟨by repeat (first | (with_reducible first | exact HB.out | apply below_alloc | apply pw_below_drewN | apply below_drew1 | refine below_set ?_ GE240.out | refine below_set ?_ GE248.out) | exact HB.out)⟩
           (try clear HO_10)
           (try clear HO_12)
           (try clear HO_59)
           (try clear BK240)
           (try clear BK248)
           (try clear HB)
           generalize (((((((w36.setCell ⟨gb248, 0, none⟩ (.int .i64 ((rd_T68 t228 x61_2).f0))).setCell ⟨gb248, 1, none⟩ (.int .i64 ((rd_T68 t228 x61_2).f1.f0))).setCell ⟨gb248, 2, none⟩ (.int .i64 ((rd_T68 t228 x61_2).f1.f1))).setCell ⟨gb248, 3, none⟩ (.int .i64 ((rd_T68 t228 x61_2).f1.f2))).setCell ⟨gb248, 4, none⟩ (.int .i64 ((rd_T68 t228 x61_2).f1.f3))).setCell ⟨gb248, 5, none⟩ (.int .i64 ((rd_T68 t228 x61_2).f1.f4))).setCell ⟨gb248, 6, none⟩ (.int .i64 ((rd_T68 t228 x61_2).f1.f5))) = w40 at n0_ n1_ n2_ n3_ n4_ n5_ ⊢
           have HO_10 := n0_
           have HO_12 := n1_
           have HO_59 := n2_
           have BK240 := n3_
           have BK248 := n4_
           have HB := n5_
           clear n0_ n1_ n2_ n3_ n4_ n5_
           have n0_ := Aside0.mk (Kd.R_drew HO_10.out)
           have n1_ := Aside0.mk (Kd.R_drew HO_12.out)
           have n2_ := Aside0.mk (Kd.R_drew HO_59.out)
           have n3_ := Aside0.mk (blk_drew BK240.out)
           have n4_ := Aside0.mk (blk_drew BK248.out)
           have n5_ := Aside0.mk (below_drew1 HB.out)
           clear HO_10
           clear HO_12
           clear HO_59
           clear BK240
           clear BK248
           clear HB
           have HO_10 := n0_
           have HO_12 := n1_
           have HO_59 := n2_
           have BK240 := n3_
           have BK248 := n4_
           have HB := n5_
           clear n0_ n1_ n2_ n3_ n4_ n5_
           by_cases c39 : a3 < 1
           ·
            rw [if_pos c39] at H
            have c39b0 : decide (a3 < 1) = true := decide_eq_true c39
            clear c39
            (first | rw [c39b0] | (simp only [i64_w, i32_w]; rw [c39b0]) | skip)
            have H' := Aside0.mk H
            clear H
            try go_wp2
            refine start_ (n := 44) (S := fun w' => True) (ds := []) (ra_ [0, 44]) (by kernel_rfl) rfl rfl trivial (fun hHeld => ?_); refine with_tabW marigraphlaw12_AggWhole.tab16 marigraphlaw12_AggWhole.bits16 (fun HT_ HW_ => ?_)
            generalize w40.drew = w41 at HO_10 HO_12 HO_59 BK240 BK248 HB hHeld ⊢
            refine pure_ (i := 0) (N := some 66) (v := ?_) (a' := ?_) (ra_ [1, 43]) rfl rfl (any_of HT_.out (by kernel_rfl)) (fun _ _ _ h => h) (Or.inl ⟨by rfl, ?_⟩) ?_ ?_
            rotate_left
            ·
             intro w'
             go_simp
             with_reducible rfl
            rotate_left
            ·
             simp only [Act.put, List.setIfInBounds_toArray, List.set_cons_zero, List.set_cons_succ, i64_w, i32_w]
             rfl
            refine pure_ (i := 1) (N := some 67) (v := ?_) (a' := ?_) (ra_ [2, 42]) rfl rfl (any_of HT_.out (by kernel_rfl)) (fun _ _ _ h => h) (Or.inl ⟨by rfl, ?_⟩) ?_ ?_
            rotate_left
            ·
             intro w'
             go_simp
             with_reducible rfl
            rotate_left
            ·
             simp only [Act.put, List.setIfInBounds_toArray, List.set_cons_zero, List.set_cons_succ, i64_w, i32_w]
             rfl
            refine pure_ (i := 2) (N := some 68) (v := ?_) (a' := ?_) (ra_ [3, 41]) rfl rfl (any_of HT_.out (by kernel_rfl)) (fun _ _ _ h => h) (Or.inl ⟨by rfl, ?_⟩) ?_ ?_
            rotate_left
            ·
             intro w'
             go_simp
             with_reducible rfl
            rotate_left
            ·
             simp only [Act.put, List.setIfInBounds_toArray, List.set_cons_zero, List.set_cons_succ, i64_w, i32_w]
             rfl
            refine pure_ (i := 3) (N := some 69) (v := undef) (a' := ?_) (ra_ [4, 40]) rfl rfl (any_of HT_.out (by kernel_rfl)) (fun _ _ _ h => h) (Or.inr ⟨by rfl, rfl⟩) ?_ ?_
            rotate_left
            ·
             simp only [Act.put, List.setIfInBounds_toArray, List.set_cons_zero, List.set_cons_succ, i64_w, i32_w]
             rfl
            refine pure_ (i := 4) (N := some 70) (v := undef) (a' := ?_) (ra_ [5, 39]) rfl rfl (any_of HT_.out (by kernel_rfl)) (fun _ _ _ h => h) (Or.inr ⟨by rfl, rfl⟩) ?_ ?_
            rotate_left
            ·
             simp only [Act.put, List.setIfInBounds_toArray, List.set_cons_zero, List.set_cons_succ, i64_w, i32_w]
             rfl
            refine pure_ (i := 5) (N := some 71) (v := undef) (a' := ?_) (ra_ [6, 38]) rfl rfl (any_of HT_.out (by kernel_rfl)) (fun _ _ _ h => h) (Or.inr ⟨by rfl, rfl⟩) ?_ ?_
            rotate_left
            ·
             simp only [Act.put, List.setIfInBounds_toArray, List.set_cons_zero, List.set_cons_succ, i64_w, i32_w]
             rfl
            refine pure_ (i := 6) (N := some 72) (v := undef) (a' := ?_) (ra_ [7, 37]) rfl rfl (any_of HT_.out (by kernel_rfl)) (fun _ _ _ h => h) (Or.inr ⟨by rfl, rfl⟩) ?_ ?_
            rotate_left
            ·
             simp only [Act.put, List.setIfInBounds_toArray, List.set_cons_zero, List.set_cons_succ, i64_w, i32_w]
             rfl
            refine pure_ (i := 7) (N := some 73) (v := ?_) (a' := ?_) (ra_ [8, 36]) rfl rfl (any_of HT_.out (by kernel_rfl)) (fun _ _ _ h => h) (Or.inl ⟨by rfl, ?_⟩) ?_ ?_
            rotate_left
            ·
             intro w'
             go_simp
             with_reducible rfl
            rotate_left
            ·
             simp only [Act.put, List.setIfInBounds_toArray, List.set_cons_zero, List.set_cons_succ, i64_w, i32_w]
             rfl
            refine pure_ (i := 8) (N := some 74) (v := ?_) (a' := ?_) (ra_ [9, 35]) rfl rfl (any_of HT_.out (by kernel_rfl)) (fun _ _ _ h => h) (Or.inl ⟨by rfl, ?_⟩) ?_ ?_
            rotate_left
            ·
             intro w'
             go_simp
             with_reducible rfl
            rotate_left
            ·
             simp only [Act.put, List.setIfInBounds_toArray, List.set_cons_zero, List.set_cons_succ, i64_w, i32_w]
             rfl
            refine pure_ (i := 9) (N := some 75) (v := undef) (a' := ?_) (ra_ [10, 34]) rfl rfl (any_of HT_.out (by kernel_rfl)) (fun _ _ _ h => h) (Or.inr ⟨by rfl, rfl⟩) ?_ ?_
            rotate_left
            ·
             simp only [Act.put, List.setIfInBounds_toArray, List.set_cons_zero, List.set_cons_succ, i64_w, i32_w]
             rfl
            refine pure_ (i := 10) (N := some 76) (v := undef) (a' := ?_) (ra_ [11, 33]) rfl rfl (any_of HT_.out (by kernel_rfl)) (fun _ _ _ h => h) (Or.inr ⟨by rfl, rfl⟩) ?_ ?_
            rotate_left
            ·
             simp only [Act.put, List.setIfInBounds_toArray, List.set_cons_zero, List.set_cons_succ, i64_w, i32_w]
             rfl
            refine pure_ (i := 11) (N := some 77) (v := undef) (a' := ?_) (ra_ [12, 32]) rfl rfl (any_of HT_.out (by kernel_rfl)) (fun _ _ _ h => h) (Or.inr ⟨by rfl, rfl⟩) ?_ ?_
            rotate_left
            ·
             simp only [Act.put, List.setIfInBounds_toArray, List.set_cons_zero, List.set_cons_succ, i64_w, i32_w]
             rfl
            refine pure_ (i := 12) (N := some 78) (v := undef) (a' := ?_) (ra_ [13, 31]) rfl rfl (any_of HT_.out (by kernel_rfl)) (fun _ _ _ h => h) (Or.inr ⟨by rfl, rfl⟩) ?_ ?_
            rotate_left
            ·
             simp only [Act.put, List.setIfInBounds_toArray, List.set_cons_zero, List.set_cons_succ, i64_w, i32_w]
             rfl
            refine pure_ (i := 13) (N := some 79) (v := ?_) (a' := ?_) (ra_ [14, 30]) rfl rfl (any_of HT_.out (by kernel_rfl)) (fun _ _ _ h => h) (Or.inl ⟨by rfl, ?_⟩) ?_ ?_
            rotate_left
            ·
             intro w'
             go_simp
             with_reducible rfl
            rotate_left
            ·
             simp only [Act.put, List.setIfInBounds_toArray, List.set_cons_zero, List.set_cons_succ, i64_w, i32_w]
             rfl
            refine pure_ (i := 14) (N := some 80) (v := ?_) (a' := ?_) (ra_ [15, 29]) rfl rfl (any_of HT_.out (by kernel_rfl)) (fun _ _ _ h => h) (Or.inl ⟨by rfl, ?_⟩) ?_ ?_
            rotate_left
            ·
             intro w'
             go_simp
             with_reducible rfl
            rotate_left
            ·
             simp only [Act.put, List.setIfInBounds_toArray, List.set_cons_zero, List.set_cons_succ, i64_w, i32_w]
             rfl
            refine pure_ (i := 15) (N := some 81) (v := undef) (a' := ?_) (ra_ [16, 28]) rfl rfl (any_of HT_.out (by kernel_rfl)) (fun _ _ _ h => h) (Or.inr ⟨by rfl, rfl⟩) ?_ ?_
            rotate_left
            ·
             simp only [Act.put, List.setIfInBounds_toArray, List.set_cons_zero, List.set_cons_succ, i64_w, i32_w]
             rfl
            refine pure_ (i := 16) (N := some 82) (v := undef) (a' := ?_) (ra_ [17, 27]) rfl rfl (any_of HT_.out (by kernel_rfl)) (fun _ _ _ h => h) (Or.inr ⟨by rfl, rfl⟩) ?_ ?_
            rotate_left
            ·
             simp only [Act.put, List.setIfInBounds_toArray, List.set_cons_zero, List.set_cons_succ, i64_w, i32_w]
             rfl
            refine pure_ (i := 17) (N := some 83) (v := undef) (a' := ?_) (ra_ [18, 26]) rfl rfl (any_of HT_.out (by kernel_rfl)) (fun _ _ _ h => h) (Or.inr ⟨by rfl, rfl⟩) ?_ ?_
            rotate_left
            ·
             simp only [Act.put, List.setIfInBounds_toArray, List.set_cons_zero, List.set_cons_succ, i64_w, i32_w]
             rfl
            refine pure_ (i := 18) (N := some 84) (v := undef) (a' := ?_) (ra_ [19, 25]) rfl rfl (any_of HT_.out (by kernel_rfl)) (fun _ _ _ h => h) (Or.inr ⟨by rfl, rfl⟩) ?_ ?_
            rotate_left
            ·
             simp only [Act.put, List.setIfInBounds_toArray, List.set_cons_zero, List.set_cons_succ, i64_w, i32_w]
             rfl
            refine pure_ (i := 19) (N := some 85) (v := undef) (a' := ?_) (ra_ [20, 24]) rfl rfl (any_of HT_.out (by kernel_rfl)) (fun _ _ _ h => h) (Or.inr ⟨by rfl, rfl⟩) ?_ ?_
            rotate_left
            ·
             simp only [Act.put, List.setIfInBounds_toArray, List.set_cons_zero, List.set_cons_succ, i64_w, i32_w]
             rfl
            refine pure_ (i := 20) (N := some 86) (v := undef) (a' := ?_) (ra_ [21, 23]) rfl rfl (any_of HT_.out (by kernel_rfl)) (fun _ _ _ h => h) (Or.inr ⟨by rfl, rfl⟩) ?_ ?_
            rotate_left
            ·
             simp only [Act.put, List.setIfInBounds_toArray, List.set_cons_zero, List.set_cons_succ, i64_w, i32_w]
             rfl
            refine pure_ (i := 21) (N := some 87) (v := undef) (a' := ?_) (ra_ [22, 22]) rfl rfl (any_of HT_.out (by kernel_rfl)) (fun _ _ _ h => h) (Or.inr ⟨by rfl, rfl⟩) ?_ ?_
            rotate_left
            ·
             simp only [Act.put, List.setIfInBounds_toArray, List.set_cons_zero, List.set_cons_succ, i64_w, i32_w]
             rfl
            refine pure_ (i := 22) (N := some 88) (v := ?_) (a' := ?_) (ra_ [23, 21]) rfl rfl (any_of HT_.out (by kernel_rfl)) (fun _ _ _ h => h) (Or.inl ⟨by rfl, ?_⟩) ?_ ?_
            rotate_left
            ·
             intro w'
             go_simp
             with_reducible rfl
            rotate_left
            ·
             simp only [Act.put, List.setIfInBounds_toArray, List.set_cons_zero, List.set_cons_succ, i64_w, i32_w]
             rfl
            refine pure_ (i := 23) (N := some 89) (v := ?_) (a' := ?_) (ra_ [24, 20]) rfl rfl (any_of HT_.out (by kernel_rfl)) (fun _ _ _ h => h) (Or.inl ⟨by rfl, ?_⟩) ?_ ?_
            rotate_left
            ·
             intro w'
             go_simp
             with_reducible rfl
            rotate_left
            ·
             simp only [Act.put, List.setIfInBounds_toArray, List.set_cons_zero, List.set_cons_succ, i64_w, i32_w]
             rfl
            refine pure_ (i := 24) (N := some 90) (v := undef) (a' := ?_) (ra_ [25, 19]) rfl rfl (any_of HT_.out (by kernel_rfl)) (fun _ _ _ h => h) (Or.inr ⟨by rfl, rfl⟩) ?_ ?_
            rotate_left
            ·
             simp only [Act.put, List.setIfInBounds_toArray, List.set_cons_zero, List.set_cons_succ, i64_w, i32_w]
             rfl
            refine pure_ (i := 25) (N := some 91) (v := undef) (a' := ?_) (ra_ [26, 18]) rfl rfl (any_of HT_.out (by kernel_rfl)) (fun _ _ _ h => h) (Or.inr ⟨by rfl, rfl⟩) ?_ ?_
            rotate_left
            ·
             simp only [Act.put, List.setIfInBounds_toArray, List.set_cons_zero, List.set_cons_succ, i64_w, i32_w]
             rfl
            refine pure_ (i := 26) (N := some 92) (v := undef) (a' := ?_) (ra_ [27, 17]) rfl rfl (any_of HT_.out (by kernel_rfl)) (fun _ _ _ h => h) (Or.inr ⟨by rfl, rfl⟩) ?_ ?_
            rotate_left
            ·
             simp only [Act.put, List.setIfInBounds_toArray, List.set_cons_zero, List.set_cons_succ, i64_w, i32_w]
             rfl
            refine pure_ (i := 27) (N := some 93) (v := undef) (a' := ?_) (ra_ [28, 16]) rfl rfl (any_of HT_.out (by kernel_rfl)) (fun _ _ _ h => h) (Or.inr ⟨by rfl, rfl⟩) ?_ ?_
            rotate_left
            ·
             simp only [Act.put, List.setIfInBounds_toArray, List.set_cons_zero, List.set_cons_succ, i64_w, i32_w]
             rfl
            refine pure_ (i := 28) (N := some 94) (v := undef) (a' := ?_) (ra_ [29, 15]) rfl rfl (any_of HT_.out (by kernel_rfl)) (fun _ _ _ h => h) (Or.inr ⟨by rfl, rfl⟩) ?_ ?_
            rotate_left
            ·
             simp only [Act.put, List.setIfInBounds_toArray, List.set_cons_zero, List.set_cons_succ, i64_w, i32_w]
             rfl
            refine pure_ (i := 29) (N := some 95) (v := undef) (a' := ?_) (ra_ [30, 14]) rfl rfl (any_of HT_.out (by kernel_rfl)) (fun _ _ _ h => h) (Or.inr ⟨by rfl, rfl⟩) ?_ ?_
            rotate_left
            ·
             simp only [Act.put, List.setIfInBounds_toArray, List.set_cons_zero, List.set_cons_succ, i64_w, i32_w]
             rfl
            refine pure_ (i := 30) (N := some 96) (v := undef) (a' := ?_) (ra_ [31, 13]) rfl rfl (any_of HT_.out (by kernel_rfl)) (fun _ _ _ h => h) (Or.inr ⟨by rfl, rfl⟩) ?_ ?_
            rotate_left
            ·
             simp only [Act.put, List.setIfInBounds_toArray, List.set_cons_zero, List.set_cons_succ, i64_w, i32_w]
             rfl
            refine pure_ (i := 31) (N := some 97) (v := undef) (a' := ?_) (ra_ [32, 12]) rfl rfl (any_of HT_.out (by kernel_rfl)) (fun _ _ _ h => h) (Or.inr ⟨by rfl, rfl⟩) ?_ ?_
            rotate_left
            ·
             simp only [Act.put, List.setIfInBounds_toArray, List.set_cons_zero, List.set_cons_succ, i64_w, i32_w]
             rfl
            refine pure_ (i := 32) (N := some 98) (v := undef) (a' := ?_) (ra_ [33, 11]) rfl rfl (any_of HT_.out (by kernel_rfl)) (fun _ _ _ h => h) (Or.inr ⟨by rfl, rfl⟩) ?_ ?_
            rotate_left
            ·
             simp only [Act.put, List.setIfInBounds_toArray, List.set_cons_zero, List.set_cons_succ, i64_w, i32_w]
             rfl
            refine pure_ (i := 33) (N := some 99) (v := undef) (a' := ?_) (ra_ [34, 10]) rfl rfl (any_of HT_.out (by kernel_rfl)) (fun _ _ _ h => h) (Or.inr ⟨by rfl, rfl⟩) ?_ ?_
            rotate_left
            ·
             simp only [Act.put, List.setIfInBounds_toArray, List.set_cons_zero, List.set_cons_succ, i64_w, i32_w]
             rfl
            refine pure_ (i := 34) (N := some 100) (v := undef) (a' := ?_) (ra_ [35, 9]) rfl rfl (any_of HT_.out (by kernel_rfl)) (fun _ _ _ h => h) (Or.inr ⟨by rfl, rfl⟩) ?_ ?_
            rotate_left
            ·
             simp only [Act.put, List.setIfInBounds_toArray, List.set_cons_zero, List.set_cons_succ, i64_w, i32_w]
             rfl
            refine pure_ (i := 35) (N := some 101) (v := undef) (a' := ?_) (ra_ [36, 8]) rfl rfl (any_of HT_.out (by kernel_rfl)) (fun _ _ _ h => h) (Or.inr ⟨by rfl, rfl⟩) ?_ ?_
            rotate_left
            ·
             simp only [Act.put, List.setIfInBounds_toArray, List.set_cons_zero, List.set_cons_succ, i64_w, i32_w]
             rfl
            refine pure_ (i := 36) (N := some 102) (v := undef) (a' := ?_) (ra_ [37, 7]) rfl rfl (any_of HT_.out (by kernel_rfl)) (fun _ _ _ h => h) (Or.inr ⟨by rfl, rfl⟩) ?_ ?_
            rotate_left
            ·
             simp only [Act.put, List.setIfInBounds_toArray, List.set_cons_zero, List.set_cons_succ, i64_w, i32_w]
             rfl
            refine pure_ (i := 37) (N := some 103) (v := ?_) (a' := ?_) (ra_ [38, 6]) rfl rfl (any_of HT_.out (by kernel_rfl)) (fun _ _ _ h => h) (Or.inl ⟨by rfl, ?_⟩) ?_ ?_
            rotate_left
            ·
             intro w'
             go_simp
             with_reducible rfl
            rotate_left
            ·
             simp only [Act.put, List.setIfInBounds_toArray, List.set_cons_zero, List.set_cons_succ, i64_w, i32_w]
             rfl
            refine pure_ (i := 38) (N := some 104) (v := ?_) (a' := ?_) (ra_ [39, 5]) rfl rfl (any_of HT_.out (by kernel_rfl)) (fun _ _ _ h => h) (Or.inl ⟨by rfl, ?_⟩) ?_ ?_
            rotate_left
            ·
             intro w'
             go_simp
             with_reducible rfl
            rotate_left
            ·
             simp only [Act.put, List.setIfInBounds_toArray, List.set_cons_zero, List.set_cons_succ, i64_w, i32_w]
             rfl
            refine pure_ (i := 39) (N := some 105) (v := undef) (a' := ?_) (ra_ [40, 4]) rfl rfl (any_of HT_.out (by kernel_rfl)) (fun _ _ _ h => h) (Or.inr ⟨by rfl, rfl⟩) ?_ ?_
            rotate_left
            ·
             simp only [Act.put, List.setIfInBounds_toArray, List.set_cons_zero, List.set_cons_succ, i64_w, i32_w]
             rfl
            refine pure_ (i := 40) (N := some 106) (v := undef) (a' := ?_) (ra_ [41, 3]) rfl rfl (any_of HT_.out (by kernel_rfl)) (fun _ _ _ h => h) (Or.inr ⟨by rfl, rfl⟩) ?_ ?_
            rotate_left
            ·
             simp only [Act.put, List.setIfInBounds_toArray, List.set_cons_zero, List.set_cons_succ, i64_w, i32_w]
             rfl
            refine pure_ (i := 41) (N := some 107) (v := undef) (a' := ?_) (ra_ [42, 2]) rfl rfl (any_of HT_.out (by kernel_rfl)) (fun _ _ _ h => h) (Or.inr ⟨by rfl, rfl⟩) ?_ ?_
            rotate_left
            ·
             simp only [Act.put, List.setIfInBounds_toArray, List.set_cons_zero, List.set_cons_succ, i64_w, i32_w]
             rfl
            refine pure_ (i := 42) (N := some 108) (v := undef) (a' := ?_) (ra_ [43, 1]) rfl rfl (any_of HT_.out (by kernel_rfl)) (fun _ _ _ h => h) (Or.inr ⟨by rfl, rfl⟩) ?_ ?_
            rotate_left
            ·
             simp only [Act.put, List.setIfInBounds_toArray, List.set_cons_zero, List.set_cons_succ, i64_w, i32_w]
             rfl
            refine pure_ (i := 43) (N := some 109) (v := ?_) (a' := ?_) (ra_ [44]) rfl rfl (any_of HT_.out (by kernel_rfl)) (fun _ _ _ h => h) (Or.inl ⟨by rfl, ?_⟩) ?_ ?_
            rotate_left
            ·
             intro w'
             go_simp
             with_reducible rfl
            rotate_left
            ·
             simp only [Act.put, List.setIfInBounds_toArray, List.set_cons_zero, List.set_cons_succ, i64_w, i32_w]
             rfl
            refine done_ (done_of HT_.out (by kernel_rfl)) ?_
            try go_wp2
            go_meet
            case rel => exact ⟨_, (true), (by first | rfl | (simp; done) | (simp [*]; done) | (simp <;> grind)), H', ⟨by have := HK1.out; have := HK2.out; first | omega | exact Nat.le_refl _⟩, ⟨by (with_reducible repeat (first | apply Kd.R_alloc | apply Kd.R_drewN | apply Kd.R_drew)); exact HO_10.out⟩, ⟨by (with_reducible repeat (first | apply Kd.R_alloc | apply Kd.R_drewN | apply Kd.R_drew)); exact HO_12.out⟩, ⟨by (with_reducible repeat (first | apply Kd.R_alloc | apply Kd.R_drewN | apply Kd.R_drew)); exact HO_59.out⟩, ⟨by (with_reducible repeat (first | refine blk_drewN ?_ _ | refine blk_drew ?_ | refine blk_alloc ?_ _)); exact BK240.out⟩, ⟨by (with_reducible repeat (first | refine blk_drewN ?_ _ | refine blk_drew ?_ | refine blk_alloc ?_ _)); exact BK248.out⟩, ⟨by repeat (first | (with_reducible first | exact HB.out | apply below_alloc | apply pw_below_drewN | apply below_drew1 | refine below_set ?_ GE240.out | refine below_set ?_ GE248.out) | exact HB.out)⟩⟩
           ·
            rw [if_neg c39] at H
            have c39b0 : decide (a3 < 1) = false := decide_eq_false c39
            clear c39
            (first | rw [c39b0] | (simp only [i64_w, i32_w]; rw [c39b0]) | skip)
            by_cases c42 : ((rd_T68 t228 x61_2).f0) < a1
            ·
             rw [if_pos c42] at H
             have c42b0 : decide (((rd_T68 t228 x61_2).f0) < a1) = true := decide_eq_true c42
             clear c42
             have H' := Aside0.mk H
             clear H
             try go_wp2
             refine start_ (n := 44) (S := fun w' => w'.cell? ⟨gb248, 0, none⟩ = some (.int .i64 ((rd_T68 t228 x61_2).f0)) ∧ w'.cell? ⟨gb248, 1, none⟩ = some (.int .i64 ((rd_T68 t228 x61_2).f1.f0)) ∧ w'.cell? ⟨gb248, 2, none⟩ = some (.int .i64 ((rd_T68 t228 x61_2).f1.f1)) ∧ w'.cell? ⟨gb248, 3, none⟩ = some (.int .i64 ((rd_T68 t228 x61_2).f1.f2)) ∧ w'.cell? ⟨gb248, 4, none⟩ = some (.int .i64 ((rd_T68 t228 x61_2).f1.f3)) ∧ w'.cell? ⟨gb248, 5, none⟩ = some (.int .i64 ((rd_T68 t228 x61_2).f1.f4)) ∧ w'.cell? ⟨gb248, 6, none⟩ = some (.int .i64 ((rd_T68 t228 x61_2).f1.f5))) (ds := []) (ra_ [0, 44]) (by kernel_rfl) rfl rfl ⟨(blk_cell BK248.out 0).trans rfl, (blk_cell BK248.out 1).trans rfl, (blk_cell BK248.out 2).trans rfl, (blk_cell BK248.out 3).trans rfl, (blk_cell BK248.out 4).trans rfl, (blk_cell BK248.out 5).trans rfl, (blk_cell BK248.out 6).trans rfl⟩ (fun hHeld => ?_); refine with_tabW marigraphlaw12_AggWhole.tab16 marigraphlaw12_AggWhole.bits16 (fun HT_ HW_ => ?_)
             generalize w40.drew = w44 at HO_10 HO_12 HO_59 BK240 BK248 HB hHeld ⊢
             refine pure_ (i := 0) (N := some 66) (v := ?_) (a' := ?_) (ra_ [1, 43]) rfl rfl (any_of HT_.out (by kernel_rfl)) (fun _ _ _ h => h) (Or.inl ⟨by rfl, ?_⟩) ?_ ?_
             rotate_left
             ·
              intro w'
              go_simp
              with_reducible rfl
             rotate_left
             ·
              simp only [Act.put, List.setIfInBounds_toArray, List.set_cons_zero, List.set_cons_succ, i64_w, i32_w]
              rfl
             refine pure_ (i := 1) (N := some 67) (v := ?_) (a' := ?_) (ra_ [2, 42]) rfl rfl (any_of HT_.out (by kernel_rfl)) (fun _ _ _ h => h) (Or.inl ⟨by rfl, ?_⟩) ?_ ?_
             rotate_left
             ·
              intro w'
              go_simp
              with_reducible rfl
             rotate_left
             ·
              simp only [Act.put, List.setIfInBounds_toArray, List.set_cons_zero, List.set_cons_succ, i64_w, i32_w]
              rfl
             refine pure_ (i := 2) (N := some 68) (v := ?_) (a' := ?_) (ra_ [3, 41]) rfl rfl (any_of HT_.out (by kernel_rfl)) (fun _ _ _ h => h) (Or.inl ⟨by rfl, ?_⟩) ?_ ?_
             rotate_left
             ·
              intro w'
              go_simp
              with_reducible rfl
             rotate_left
             ·
              simp only [Act.put, List.setIfInBounds_toArray, List.set_cons_zero, List.set_cons_succ, i64_w, i32_w]
              rfl
             refine pure_ (i := 3) (N := some 69) (v := ?_) (a' := ?_) (ra_ [4, 40]) rfl rfl (any_of HT_.out (by kernel_rfl)) (fun _ _ _ h => h) (Or.inl ⟨by rfl, ?_⟩) ?_ ?_
             rotate_left
             ·
              intro w'
              go_simp
              with_reducible rfl
             rotate_left
             ·
              simp only [Act.put, List.setIfInBounds_toArray, List.set_cons_zero, List.set_cons_succ, i64_w, i32_w]
              rfl
             refine pure_ (i := 5) (N := some 71) (v := ?_) (a' := ?_) (ra_ [4, 1, 1, 38]) rfl rfl (any_of HT_.out (by kernel_rfl)) (fun _ _ _ h => h) (Or.inl ⟨by rfl, ?_⟩) ?_ ?_
             rotate_left
             ·
              intro w'
              go_simp
              with_reducible rfl
             rotate_left
             ·
              simp only [Act.put, List.setIfInBounds_toArray, List.set_cons_zero, List.set_cons_succ, i64_w, i32_w]
              rfl
             refine take_ (i := 4) (N := some 70) (v := ?_) (a' := ?_) (ra_ [6, 38]) rfl rfl (take_ofW HT_.out HW_.out (by kernel_rfl)) (fun _ _ _ h => h) (Or.inl ⟨by rfl, ?_⟩) hHeld ?_ ?_
             rotate_left
             ·
              rintro w' ⟨s0, s1, s2, s3, s4, s5, s6⟩
              go_simp
              with_reducible rfl
             rotate_left
             ·
              simp only [Act.put, List.setIfInBounds_toArray, List.set_cons_zero, List.set_cons_succ, i64_w, i32_w]
              rfl
             refine pure_ (i := 6) (N := some 72) (v := ?_) (a' := ?_) (ra_ [7, 37]) rfl rfl (any_of HT_.out (by kernel_rfl)) (fun _ _ _ h => h) (Or.inl ⟨by rfl, ?_⟩) ?_ ?_
             rotate_left
             ·
              intro w'
              go_simp
              with_reducible rfl
             rotate_left
             ·
              simp only [Act.put, List.setIfInBounds_toArray, List.set_cons_zero, List.set_cons_succ, i64_w, i32_w]
              rfl
             refine pure_ (i := 7) (N := some 73) (v := ?_) (a' := ?_) (ra_ [8, 36]) rfl rfl (any_of HT_.out (by kernel_rfl)) (fun _ _ _ h => h) (Or.inl ⟨by rfl, ?_⟩) ?_ ?_
             rotate_left
             ·
              intro w'
              go_simp
              with_reducible rfl
             rotate_left
             ·
              simp only [Act.put, List.setIfInBounds_toArray, List.set_cons_zero, List.set_cons_succ, i64_w, i32_w]
              rfl
             refine pure_ (i := 8) (N := some 74) (v := ?_) (a' := ?_) (ra_ [9, 35]) rfl rfl (any_of HT_.out (by kernel_rfl)) (fun _ _ _ h => h) (Or.inl ⟨by rfl, ?_⟩) ?_ ?_
             rotate_left
             ·
              intro w'
              go_simp
              with_reducible rfl
             rotate_left
             ·
              simp only [Act.put, List.setIfInBounds_toArray, List.set_cons_zero, List.set_cons_succ, i64_w, i32_w]
              rfl
             refine pure_ (i := 9) (N := some 75) (v := undef) (a' := ?_) (ra_ [10, 34]) rfl rfl (any_of HT_.out (by kernel_rfl)) (fun _ _ _ h => h) (Or.inr ⟨by rfl, rfl⟩) ?_ ?_
             rotate_left
             ·
              simp only [Act.put, List.setIfInBounds_toArray, List.set_cons_zero, List.set_cons_succ, i64_w, i32_w]
              rfl
             refine pure_ (i := 10) (N := some 76) (v := undef) (a' := ?_) (ra_ [11, 33]) rfl rfl (any_of HT_.out (by kernel_rfl)) (fun _ _ _ h => h) (Or.inr ⟨by rfl, rfl⟩) ?_ ?_
             rotate_left
             ·
              simp only [Act.put, List.setIfInBounds_toArray, List.set_cons_zero, List.set_cons_succ, i64_w, i32_w]
              rfl
             refine pure_ (i := 11) (N := some 77) (v := undef) (a' := ?_) (ra_ [12, 32]) rfl rfl (any_of HT_.out (by kernel_rfl)) (fun _ _ _ h => h) (Or.inr ⟨by rfl, rfl⟩) ?_ ?_
             rotate_left
             ·
              simp only [Act.put, List.setIfInBounds_toArray, List.set_cons_zero, List.set_cons_succ, i64_w, i32_w]
              rfl
             refine pure_ (i := 12) (N := some 78) (v := undef) (a' := ?_) (ra_ [13, 31]) rfl rfl (any_of HT_.out (by kernel_rfl)) (fun _ _ _ h => h) (Or.inr ⟨by rfl, rfl⟩) ?_ ?_
             rotate_left
             ·
              simp only [Act.put, List.setIfInBounds_toArray, List.set_cons_zero, List.set_cons_succ, i64_w, i32_w]
              rfl
             refine pure_ (i := 13) (N := some 79) (v := ?_) (a' := ?_) (ra_ [14, 30]) rfl rfl (any_of HT_.out (by kernel_rfl)) (fun _ _ _ h => h) (Or.inl ⟨by rfl, ?_⟩) ?_ ?_
             rotate_left
             ·
              intro w'
              go_simp
              with_reducible rfl
             rotate_left
             ·
              simp only [Act.put, List.setIfInBounds_toArray, List.set_cons_zero, List.set_cons_succ, i64_w, i32_w]
              rfl
             refine pure_ (i := 14) (N := some 80) (v := ?_) (a' := ?_) (ra_ [15, 29]) rfl rfl (any_of HT_.out (by kernel_rfl)) (fun _ _ _ h => h) (Or.inl ⟨by rfl, ?_⟩) ?_ ?_
             rotate_left
             ·
              intro w'
              go_simp
              with_reducible rfl
             rotate_left
             ·
              simp only [Act.put, List.setIfInBounds_toArray, List.set_cons_zero, List.set_cons_succ, i64_w, i32_w]
              rfl
             refine pure_ (i := 15) (N := some 81) (v := undef) (a' := ?_) (ra_ [16, 28]) rfl rfl (any_of HT_.out (by kernel_rfl)) (fun _ _ _ h => h) (Or.inr ⟨by rfl, rfl⟩) ?_ ?_
             rotate_left
             ·
              simp only [Act.put, List.setIfInBounds_toArray, List.set_cons_zero, List.set_cons_succ, i64_w, i32_w]
              rfl
             refine pure_ (i := 16) (N := some 82) (v := undef) (a' := ?_) (ra_ [17, 27]) rfl rfl (any_of HT_.out (by kernel_rfl)) (fun _ _ _ h => h) (Or.inr ⟨by rfl, rfl⟩) ?_ ?_
             rotate_left
             ·
              simp only [Act.put, List.setIfInBounds_toArray, List.set_cons_zero, List.set_cons_succ, i64_w, i32_w]
              rfl
             refine pure_ (i := 17) (N := some 83) (v := undef) (a' := ?_) (ra_ [18, 26]) rfl rfl (any_of HT_.out (by kernel_rfl)) (fun _ _ _ h => h) (Or.inr ⟨by rfl, rfl⟩) ?_ ?_
             rotate_left
             ·
              simp only [Act.put, List.setIfInBounds_toArray, List.set_cons_zero, List.set_cons_succ, i64_w, i32_w]
              rfl
             refine pure_ (i := 18) (N := some 84) (v := undef) (a' := ?_) (ra_ [19, 25]) rfl rfl (any_of HT_.out (by kernel_rfl)) (fun _ _ _ h => h) (Or.inr ⟨by rfl, rfl⟩) ?_ ?_
             rotate_left
             ·
              simp only [Act.put, List.setIfInBounds_toArray, List.set_cons_zero, List.set_cons_succ, i64_w, i32_w]
              rfl
             refine pure_ (i := 19) (N := some 85) (v := undef) (a' := ?_) (ra_ [20, 24]) rfl rfl (any_of HT_.out (by kernel_rfl)) (fun _ _ _ h => h) (Or.inr ⟨by rfl, rfl⟩) ?_ ?_
             rotate_left
             ·
              simp only [Act.put, List.setIfInBounds_toArray, List.set_cons_zero, List.set_cons_succ, i64_w, i32_w]
              rfl
             refine pure_ (i := 20) (N := some 86) (v := undef) (a' := ?_) (ra_ [21, 23]) rfl rfl (any_of HT_.out (by kernel_rfl)) (fun _ _ _ h => h) (Or.inr ⟨by rfl, rfl⟩) ?_ ?_
             rotate_left
             ·
              simp only [Act.put, List.setIfInBounds_toArray, List.set_cons_zero, List.set_cons_succ, i64_w, i32_w]
              rfl
             refine pure_ (i := 21) (N := some 87) (v := undef) (a' := ?_) (ra_ [22, 22]) rfl rfl (any_of HT_.out (by kernel_rfl)) (fun _ _ _ h => h) (Or.inr ⟨by rfl, rfl⟩) ?_ ?_
             rotate_left
             ·
              simp only [Act.put, List.setIfInBounds_toArray, List.set_cons_zero, List.set_cons_succ, i64_w, i32_w]
              rfl
             refine pure_ (i := 22) (N := some 88) (v := ?_) (a' := ?_) (ra_ [23, 21]) rfl rfl (any_of HT_.out (by kernel_rfl)) (fun _ _ _ h => h) (Or.inl ⟨by rfl, ?_⟩) ?_ ?_
             rotate_left
             ·
              intro w'
              go_simp
              with_reducible rfl
             rotate_left
             ·
              simp only [Act.put, List.setIfInBounds_toArray, List.set_cons_zero, List.set_cons_succ, i64_w, i32_w]
              rfl
             refine pure_ (i := 23) (N := some 89) (v := ?_) (a' := ?_) (ra_ [24, 20]) rfl rfl (any_of HT_.out (by kernel_rfl)) (fun _ _ _ h => h) (Or.inl ⟨by rfl, ?_⟩) ?_ ?_
             rotate_left
             ·
              intro w'
              go_simp
              with_reducible rfl
             rotate_left
             ·
              simp only [Act.put, List.setIfInBounds_toArray, List.set_cons_zero, List.set_cons_succ, i64_w, i32_w]
              rfl
             refine pure_ (i := 24) (N := some 90) (v := undef) (a' := ?_) (ra_ [25, 19]) rfl rfl (any_of HT_.out (by kernel_rfl)) (fun _ _ _ h => h) (Or.inr ⟨by rfl, rfl⟩) ?_ ?_
             rotate_left
             ·
              simp only [Act.put, List.setIfInBounds_toArray, List.set_cons_zero, List.set_cons_succ, i64_w, i32_w]
              rfl
             refine pure_ (i := 25) (N := some 91) (v := undef) (a' := ?_) (ra_ [26, 18]) rfl rfl (any_of HT_.out (by kernel_rfl)) (fun _ _ _ h => h) (Or.inr ⟨by rfl, rfl⟩) ?_ ?_
             rotate_left
             ·
              simp only [Act.put, List.setIfInBounds_toArray, List.set_cons_zero, List.set_cons_succ, i64_w, i32_w]
              rfl
             refine pure_ (i := 26) (N := some 92) (v := undef) (a' := ?_) (ra_ [27, 17]) rfl rfl (any_of HT_.out (by kernel_rfl)) (fun _ _ _ h => h) (Or.inr ⟨by rfl, rfl⟩) ?_ ?_
             rotate_left
             ·
              simp only [Act.put, List.setIfInBounds_toArray, List.set_cons_zero, List.set_cons_succ, i64_w, i32_w]
              rfl
             refine pure_ (i := 27) (N := some 93) (v := undef) (a' := ?_) (ra_ [28, 16]) rfl rfl (any_of HT_.out (by kernel_rfl)) (fun _ _ _ h => h) (Or.inr ⟨by rfl, rfl⟩) ?_ ?_
             rotate_left
             ·
              simp only [Act.put, List.setIfInBounds_toArray, List.set_cons_zero, List.set_cons_succ, i64_w, i32_w]
              rfl
             refine pure_ (i := 28) (N := some 94) (v := undef) (a' := ?_) (ra_ [29, 15]) rfl rfl (any_of HT_.out (by kernel_rfl)) (fun _ _ _ h => h) (Or.inr ⟨by rfl, rfl⟩) ?_ ?_
             rotate_left
             ·
              simp only [Act.put, List.setIfInBounds_toArray, List.set_cons_zero, List.set_cons_succ, i64_w, i32_w]
              rfl
             refine pure_ (i := 29) (N := some 95) (v := undef) (a' := ?_) (ra_ [30, 14]) rfl rfl (any_of HT_.out (by kernel_rfl)) (fun _ _ _ h => h) (Or.inr ⟨by rfl, rfl⟩) ?_ ?_
             rotate_left
             ·
              simp only [Act.put, List.setIfInBounds_toArray, List.set_cons_zero, List.set_cons_succ, i64_w, i32_w]
              rfl
             refine pure_ (i := 30) (N := some 96) (v := undef) (a' := ?_) (ra_ [31, 13]) rfl rfl (any_of HT_.out (by kernel_rfl)) (fun _ _ _ h => h) (Or.inr ⟨by rfl, rfl⟩) ?_ ?_
             rotate_left
             ·
              simp only [Act.put, List.setIfInBounds_toArray, List.set_cons_zero, List.set_cons_succ, i64_w, i32_w]
              rfl
             refine pure_ (i := 31) (N := some 97) (v := undef) (a' := ?_) (ra_ [32, 12]) rfl rfl (any_of HT_.out (by kernel_rfl)) (fun _ _ _ h => h) (Or.inr ⟨by rfl, rfl⟩) ?_ ?_
             rotate_left
             ·
              simp only [Act.put, List.setIfInBounds_toArray, List.set_cons_zero, List.set_cons_succ, i64_w, i32_w]
              rfl
             refine pure_ (i := 32) (N := some 98) (v := undef) (a' := ?_) (ra_ [33, 11]) rfl rfl (any_of HT_.out (by kernel_rfl)) (fun _ _ _ h => h) (Or.inr ⟨by rfl, rfl⟩) ?_ ?_
             rotate_left
             ·
              simp only [Act.put, List.setIfInBounds_toArray, List.set_cons_zero, List.set_cons_succ, i64_w, i32_w]
              rfl
             refine pure_ (i := 33) (N := some 99) (v := undef) (a' := ?_) (ra_ [34, 10]) rfl rfl (any_of HT_.out (by kernel_rfl)) (fun _ _ _ h => h) (Or.inr ⟨by rfl, rfl⟩) ?_ ?_
             rotate_left
             ·
              simp only [Act.put, List.setIfInBounds_toArray, List.set_cons_zero, List.set_cons_succ, i64_w, i32_w]
              rfl
             refine pure_ (i := 34) (N := some 100) (v := undef) (a' := ?_) (ra_ [35, 9]) rfl rfl (any_of HT_.out (by kernel_rfl)) (fun _ _ _ h => h) (Or.inr ⟨by rfl, rfl⟩) ?_ ?_
             rotate_left
             ·
              simp only [Act.put, List.setIfInBounds_toArray, List.set_cons_zero, List.set_cons_succ, i64_w, i32_w]
              rfl
             refine pure_ (i := 35) (N := some 101) (v := undef) (a' := ?_) (ra_ [36, 8]) rfl rfl (any_of HT_.out (by kernel_rfl)) (fun _ _ _ h => h) (Or.inr ⟨by rfl, rfl⟩) ?_ ?_
             rotate_left
             ·
              simp only [Act.put, List.setIfInBounds_toArray, List.set_cons_zero, List.set_cons_succ, i64_w, i32_w]
              rfl
             refine pure_ (i := 36) (N := some 102) (v := undef) (a' := ?_) (ra_ [37, 7]) rfl rfl (any_of HT_.out (by kernel_rfl)) (fun _ _ _ h => h) (Or.inr ⟨by rfl, rfl⟩) ?_ ?_
             rotate_left
             ·
              simp only [Act.put, List.setIfInBounds_toArray, List.set_cons_zero, List.set_cons_succ, i64_w, i32_w]
              rfl
             refine pure_ (i := 37) (N := some 103) (v := ?_) (a' := ?_) (ra_ [38, 6]) rfl rfl (any_of HT_.out (by kernel_rfl)) (fun _ _ _ h => h) (Or.inl ⟨by rfl, ?_⟩) ?_ ?_
             rotate_left
             ·
              intro w'
              go_simp
              with_reducible rfl
             rotate_left
             ·
              simp only [Act.put, List.setIfInBounds_toArray, List.set_cons_zero, List.set_cons_succ, i64_w, i32_w]
              rfl
             refine pure_ (i := 38) (N := some 104) (v := ?_) (a' := ?_) (ra_ [39, 5]) rfl rfl (any_of HT_.out (by kernel_rfl)) (fun _ _ _ h => h) (Or.inl ⟨by rfl, ?_⟩) ?_ ?_
             rotate_left
             ·
              intro w'
              go_simp
              with_reducible rfl
             rotate_left
             ·
              simp only [Act.put, List.setIfInBounds_toArray, List.set_cons_zero, List.set_cons_succ, i64_w, i32_w]
              rfl
             refine pure_ (i := 39) (N := some 105) (v := undef) (a' := ?_) (ra_ [40, 4]) rfl rfl (any_of HT_.out (by kernel_rfl)) (fun _ _ _ h => h) (Or.inr ⟨by rfl, rfl⟩) ?_ ?_
             rotate_left
             ·
              simp only [Act.put, List.setIfInBounds_toArray, List.set_cons_zero, List.set_cons_succ, i64_w, i32_w]
              rfl
             refine pure_ (i := 40) (N := some 106) (v := undef) (a' := ?_) (ra_ [41, 3]) rfl rfl (any_of HT_.out (by kernel_rfl)) (fun _ _ _ h => h) (Or.inr ⟨by rfl, rfl⟩) ?_ ?_
             rotate_left
             ·
              simp only [Act.put, List.setIfInBounds_toArray, List.set_cons_zero, List.set_cons_succ, i64_w, i32_w]
              rfl
             refine pure_ (i := 41) (N := some 107) (v := undef) (a' := ?_) (ra_ [42, 2]) rfl rfl (any_of HT_.out (by kernel_rfl)) (fun _ _ _ h => h) (Or.inr ⟨by rfl, rfl⟩) ?_ ?_
             rotate_left
             ·
              simp only [Act.put, List.setIfInBounds_toArray, List.set_cons_zero, List.set_cons_succ, i64_w, i32_w]
              rfl
             refine pure_ (i := 42) (N := some 108) (v := undef) (a' := ?_) (ra_ [43, 1]) rfl rfl (any_of HT_.out (by kernel_rfl)) (fun _ _ _ h => h) (Or.inr ⟨by rfl, rfl⟩) ?_ ?_
             rotate_left
             ·
              simp only [Act.put, List.setIfInBounds_toArray, List.set_cons_zero, List.set_cons_succ, i64_w, i32_w]
              rfl
             refine pure_ (i := 43) (N := some 109) (v := ?_) (a' := ?_) (ra_ [44]) rfl rfl (any_of HT_.out (by kernel_rfl)) (fun _ _ _ h => h) (Or.inl ⟨by rfl, ?_⟩) ?_ ?_
             rotate_left
             ·
              intro w'
              go_simp
              with_reducible rfl
             rotate_left
             ·
              simp only [Act.put, List.setIfInBounds_toArray, List.set_cons_zero, List.set_cons_succ, i64_w, i32_w]
              rfl
             refine done_ (done_of HT_.out (by kernel_rfl)) ?_
             try go_wp2
             go_meet
             case rel => exact ⟨_, (true), (by first | rfl | (simp; done) | (simp [*]; done) | (simp <;> grind)), H', ⟨by have := HK1.out; have := HK2.out; first | omega | exact Nat.le_refl _⟩, ⟨by (with_reducible repeat (first | apply Kd.R_alloc | apply Kd.R_drewN | apply Kd.R_drew)); exact HO_10.out⟩, ⟨by (with_reducible repeat (first | apply Kd.R_alloc | apply Kd.R_drewN | apply Kd.R_drew)); exact HO_12.out⟩, ⟨by (with_reducible repeat (first | apply Kd.R_alloc | apply Kd.R_drewN | apply Kd.R_drew)); exact HO_59.out⟩, ⟨by (with_reducible repeat (first | refine blk_drewN ?_ _ | refine blk_drew ?_ | refine blk_alloc ?_ _)); exact BK240.out⟩, ⟨by (with_reducible repeat (first | refine blk_drewN ?_ _ | refine blk_drew ?_ | refine blk_alloc ?_ _)); exact BK248.out⟩, ⟨by repeat (first | (with_reducible first | exact HB.out | apply below_alloc | apply pw_below_drewN | apply below_drew1 | refine below_set ?_ GE240.out | refine below_set ?_ GE248.out) | exact HB.out)⟩⟩
            ·
             rw [if_neg c42] at H
             have c42b0 : decide (((rd_T68 t228 x61_2).f0) < a1) = false := decide_eq_false c42
             clear c42
             by_cases c45 : ((rd_T68 t228 x61_2).f0) ≥ a2
             ·
              rw [if_pos c45] at H
              have c45b0 : decide (a2 ≤ ((rd_T68 t228 x61_2).f0)) = true := decide_eq_true c45
              clear c45
              have H' := Aside0.mk H
              clear H
              try go_wp2
              refine start_ (n := 44) (S := fun w' => w'.cell? ⟨gb248, 0, none⟩ = some (.int .i64 ((rd_T68 t228 x61_2).f0)) ∧ w'.cell? ⟨gb248, 1, none⟩ = some (.int .i64 ((rd_T68 t228 x61_2).f1.f0)) ∧ w'.cell? ⟨gb248, 2, none⟩ = some (.int .i64 ((rd_T68 t228 x61_2).f1.f1)) ∧ w'.cell? ⟨gb248, 3, none⟩ = some (.int .i64 ((rd_T68 t228 x61_2).f1.f2)) ∧ w'.cell? ⟨gb248, 4, none⟩ = some (.int .i64 ((rd_T68 t228 x61_2).f1.f3)) ∧ w'.cell? ⟨gb248, 5, none⟩ = some (.int .i64 ((rd_T68 t228 x61_2).f1.f4)) ∧ w'.cell? ⟨gb248, 6, none⟩ = some (.int .i64 ((rd_T68 t228 x61_2).f1.f5))) (ds := []) (ra_ [0, 44]) (by kernel_rfl) rfl rfl ⟨(blk_cell BK248.out 0).trans rfl, (blk_cell BK248.out 1).trans rfl, (blk_cell BK248.out 2).trans rfl, (blk_cell BK248.out 3).trans rfl, (blk_cell BK248.out 4).trans rfl, (blk_cell BK248.out 5).trans rfl, (blk_cell BK248.out 6).trans rfl⟩ (fun hHeld => ?_); refine with_tabW marigraphlaw12_AggWhole.tab16 marigraphlaw12_AggWhole.bits16 (fun HT_ HW_ => ?_)
              generalize w40.drew = w47 at HO_10 HO_12 HO_59 BK240 BK248 HB hHeld ⊢
              refine pure_ (i := 0) (N := some 66) (v := ?_) (a' := ?_) (ra_ [1, 43]) rfl rfl (any_of HT_.out (by kernel_rfl)) (fun _ _ _ h => h) (Or.inl ⟨by rfl, ?_⟩) ?_ ?_
              rotate_left
              ·
               intro w'
               go_simp
               with_reducible rfl
              rotate_left
              ·
               simp only [Act.put, List.setIfInBounds_toArray, List.set_cons_zero, List.set_cons_succ, i64_w, i32_w]
               rfl
              refine pure_ (i := 1) (N := some 67) (v := ?_) (a' := ?_) (ra_ [2, 42]) rfl rfl (any_of HT_.out (by kernel_rfl)) (fun _ _ _ h => h) (Or.inl ⟨by rfl, ?_⟩) ?_ ?_
              rotate_left
              ·
               intro w'
               go_simp
               with_reducible rfl
              rotate_left
              ·
               simp only [Act.put, List.setIfInBounds_toArray, List.set_cons_zero, List.set_cons_succ, i64_w, i32_w]
               rfl
              refine pure_ (i := 2) (N := some 68) (v := ?_) (a' := ?_) (ra_ [3, 41]) rfl rfl (any_of HT_.out (by kernel_rfl)) (fun _ _ _ h => h) (Or.inl ⟨by rfl, ?_⟩) ?_ ?_
              rotate_left
              ·
               intro w'
               go_simp
               with_reducible rfl
              rotate_left
              ·
               simp only [Act.put, List.setIfInBounds_toArray, List.set_cons_zero, List.set_cons_succ, i64_w, i32_w]
               rfl
              refine pure_ (i := 3) (N := some 69) (v := ?_) (a' := ?_) (ra_ [4, 40]) rfl rfl (any_of HT_.out (by kernel_rfl)) (fun _ _ _ h => h) (Or.inl ⟨by rfl, ?_⟩) ?_ ?_
              rotate_left
              ·
               intro w'
               go_simp
               with_reducible rfl
              rotate_left
              ·
               simp only [Act.put, List.setIfInBounds_toArray, List.set_cons_zero, List.set_cons_succ, i64_w, i32_w]
               rfl
              refine pure_ (i := 5) (N := some 71) (v := ?_) (a' := ?_) (ra_ [4, 1, 1, 38]) rfl rfl (any_of HT_.out (by kernel_rfl)) (fun _ _ _ h => h) (Or.inl ⟨by rfl, ?_⟩) ?_ ?_
              rotate_left
              ·
               intro w'
               go_simp
               with_reducible rfl
              rotate_left
              ·
               simp only [Act.put, List.setIfInBounds_toArray, List.set_cons_zero, List.set_cons_succ, i64_w, i32_w]
               rfl
              refine take_ (i := 4) (N := some 70) (v := ?_) (a' := ?_) (ra_ [6, 38]) rfl rfl (take_ofW HT_.out HW_.out (by kernel_rfl)) (fun _ _ _ h => h) (Or.inl ⟨by rfl, ?_⟩) hHeld ?_ ?_
              rotate_left
              ·
               rintro w' ⟨s0, s1, s2, s3, s4, s5, s6⟩
               go_simp
               with_reducible rfl
              rotate_left
              ·
               simp only [Act.put, List.setIfInBounds_toArray, List.set_cons_zero, List.set_cons_succ, i64_w, i32_w]
               rfl
              refine pure_ (i := 6) (N := some 72) (v := ?_) (a' := ?_) (ra_ [7, 37]) rfl rfl (any_of HT_.out (by kernel_rfl)) (fun _ _ _ h => h) (Or.inl ⟨by rfl, ?_⟩) ?_ ?_
              rotate_left
              ·
               intro w'
               go_simp
               with_reducible rfl
              rotate_left
              ·
               simp only [Act.put, List.setIfInBounds_toArray, List.set_cons_zero, List.set_cons_succ, i64_w, i32_w]
               rfl
              refine pure_ (i := 7) (N := some 73) (v := ?_) (a' := ?_) (ra_ [8, 36]) rfl rfl (any_of HT_.out (by kernel_rfl)) (fun _ _ _ h => h) (Or.inl ⟨by rfl, ?_⟩) ?_ ?_
              rotate_left
              ·
               intro w'
               go_simp
               with_reducible rfl
              rotate_left
              ·
               simp only [Act.put, List.setIfInBounds_toArray, List.set_cons_zero, List.set_cons_succ, i64_w, i32_w]
               rfl
              refine pure_ (i := 8) (N := some 74) (v := ?_) (a' := ?_) (ra_ [9, 35]) rfl rfl (any_of HT_.out (by kernel_rfl)) (fun _ _ _ h => h) (Or.inl ⟨by rfl, ?_⟩) ?_ ?_
              rotate_left
              ·
               intro w'
               go_simp
               with_reducible rfl
              rotate_left
              ·
               simp only [Act.put, List.setIfInBounds_toArray, List.set_cons_zero, List.set_cons_succ, i64_w, i32_w]
               rfl
              refine pure_ (i := 9) (N := some 75) (v := ?_) (a' := ?_) (ra_ [10, 34]) rfl rfl (any_of HT_.out (by kernel_rfl)) (fun _ _ _ h => h) (Or.inl ⟨by rfl, ?_⟩) ?_ ?_
              rotate_left
              ·
               intro w'
               go_simp
               with_reducible rfl
              rotate_left
              ·
               simp only [Act.put, List.setIfInBounds_toArray, List.set_cons_zero, List.set_cons_succ, i64_w, i32_w]
               rfl
              refine pure_ (i := 11) (N := some 77) (v := ?_) (a' := ?_) (ra_ [10, 1, 1, 32]) rfl rfl (any_of HT_.out (by kernel_rfl)) (fun _ _ _ h => h) (Or.inl ⟨by rfl, ?_⟩) ?_ ?_
              rotate_left
              ·
               intro w'
               go_simp
               with_reducible rfl
              rotate_left
              ·
               simp only [Act.put, List.setIfInBounds_toArray, List.set_cons_zero, List.set_cons_succ, i64_w, i32_w]
               rfl
              refine take_ (i := 10) (N := some 76) (v := ?_) (a' := ?_) (ra_ [12, 32]) rfl rfl (take_ofW HT_.out HW_.out (by kernel_rfl)) (fun _ _ _ h => h) (Or.inl ⟨by rfl, ?_⟩) hHeld ?_ ?_
              rotate_left
              ·
               rintro w' ⟨s0, s1, s2, s3, s4, s5, s6⟩
               go_simp
               with_reducible rfl
              rotate_left
              ·
               simp only [Act.put, List.setIfInBounds_toArray, List.set_cons_zero, List.set_cons_succ, i64_w, i32_w]
               rfl
              refine pure_ (i := 12) (N := some 78) (v := ?_) (a' := ?_) (ra_ [13, 31]) rfl rfl (any_of HT_.out (by kernel_rfl)) (fun _ _ _ h => h) (Or.inl ⟨by rfl, ?_⟩) ?_ ?_
              rotate_left
              ·
               intro w'
               go_simp
               with_reducible rfl
              rotate_left
              ·
               simp only [Act.put, List.setIfInBounds_toArray, List.set_cons_zero, List.set_cons_succ, i64_w, i32_w]
               rfl
              refine pure_ (i := 13) (N := some 79) (v := ?_) (a' := ?_) (ra_ [14, 30]) rfl rfl (any_of HT_.out (by kernel_rfl)) (fun _ _ _ h => h) (Or.inl ⟨by rfl, ?_⟩) ?_ ?_
              rotate_left
              ·
               intro w'
               go_simp
               with_reducible rfl
              rotate_left
              ·
               simp only [Act.put, List.setIfInBounds_toArray, List.set_cons_zero, List.set_cons_succ, i64_w, i32_w]
               rfl
              refine pure_ (i := 14) (N := some 80) (v := ?_) (a' := ?_) (ra_ [15, 29]) rfl rfl (any_of HT_.out (by kernel_rfl)) (fun _ _ _ h => h) (Or.inl ⟨by rfl, ?_⟩) ?_ ?_
              rotate_left
              ·
               intro w'
               go_simp
               with_reducible rfl
              rotate_left
              ·
               simp only [Act.put, List.setIfInBounds_toArray, List.set_cons_zero, List.set_cons_succ, i64_w, i32_w]
               rfl
              refine pure_ (i := 15) (N := some 81) (v := undef) (a' := ?_) (ra_ [16, 28]) rfl rfl (any_of HT_.out (by kernel_rfl)) (fun _ _ _ h => h) (Or.inr ⟨by rfl, rfl⟩) ?_ ?_
              rotate_left
              ·
               simp only [Act.put, List.setIfInBounds_toArray, List.set_cons_zero, List.set_cons_succ, i64_w, i32_w]
               rfl
              refine pure_ (i := 16) (N := some 82) (v := undef) (a' := ?_) (ra_ [17, 27]) rfl rfl (any_of HT_.out (by kernel_rfl)) (fun _ _ _ h => h) (Or.inr ⟨by rfl, rfl⟩) ?_ ?_
              rotate_left
              ·
               simp only [Act.put, List.setIfInBounds_toArray, List.set_cons_zero, List.set_cons_succ, i64_w, i32_w]
               rfl
              refine pure_ (i := 17) (N := some 83) (v := undef) (a' := ?_) (ra_ [18, 26]) rfl rfl (any_of HT_.out (by kernel_rfl)) (fun _ _ _ h => h) (Or.inr ⟨by rfl, rfl⟩) ?_ ?_
              rotate_left
              ·
               simp only [Act.put, List.setIfInBounds_toArray, List.set_cons_zero, List.set_cons_succ, i64_w, i32_w]
               rfl
              refine pure_ (i := 18) (N := some 84) (v := undef) (a' := ?_) (ra_ [19, 25]) rfl rfl (any_of HT_.out (by kernel_rfl)) (fun _ _ _ h => h) (Or.inr ⟨by rfl, rfl⟩) ?_ ?_
              rotate_left
              ·
               simp only [Act.put, List.setIfInBounds_toArray, List.set_cons_zero, List.set_cons_succ, i64_w, i32_w]
               rfl
              refine pure_ (i := 19) (N := some 85) (v := undef) (a' := ?_) (ra_ [20, 24]) rfl rfl (any_of HT_.out (by kernel_rfl)) (fun _ _ _ h => h) (Or.inr ⟨by rfl, rfl⟩) ?_ ?_
              rotate_left
              ·
               simp only [Act.put, List.setIfInBounds_toArray, List.set_cons_zero, List.set_cons_succ, i64_w, i32_w]
               rfl
              refine pure_ (i := 20) (N := some 86) (v := undef) (a' := ?_) (ra_ [21, 23]) rfl rfl (any_of HT_.out (by kernel_rfl)) (fun _ _ _ h => h) (Or.inr ⟨by rfl, rfl⟩) ?_ ?_
              rotate_left
              ·
               simp only [Act.put, List.setIfInBounds_toArray, List.set_cons_zero, List.set_cons_succ, i64_w, i32_w]
               rfl
              refine pure_ (i := 21) (N := some 87) (v := undef) (a' := ?_) (ra_ [22, 22]) rfl rfl (any_of HT_.out (by kernel_rfl)) (fun _ _ _ h => h) (Or.inr ⟨by rfl, rfl⟩) ?_ ?_
              rotate_left
              ·
               simp only [Act.put, List.setIfInBounds_toArray, List.set_cons_zero, List.set_cons_succ, i64_w, i32_w]
               rfl
              refine pure_ (i := 22) (N := some 88) (v := ?_) (a' := ?_) (ra_ [23, 21]) rfl rfl (any_of HT_.out (by kernel_rfl)) (fun _ _ _ h => h) (Or.inl ⟨by rfl, ?_⟩) ?_ ?_
              rotate_left
              ·
               intro w'
               go_simp
               with_reducible rfl
              rotate_left
              ·
               simp only [Act.put, List.setIfInBounds_toArray, List.set_cons_zero, List.set_cons_succ, i64_w, i32_w]
               rfl
              refine pure_ (i := 23) (N := some 89) (v := ?_) (a' := ?_) (ra_ [24, 20]) rfl rfl (any_of HT_.out (by kernel_rfl)) (fun _ _ _ h => h) (Or.inl ⟨by rfl, ?_⟩) ?_ ?_
              rotate_left
              ·
               intro w'
               go_simp
               with_reducible rfl
              rotate_left
              ·
               simp only [Act.put, List.setIfInBounds_toArray, List.set_cons_zero, List.set_cons_succ, i64_w, i32_w]
               rfl
              refine pure_ (i := 24) (N := some 90) (v := undef) (a' := ?_) (ra_ [25, 19]) rfl rfl (any_of HT_.out (by kernel_rfl)) (fun _ _ _ h => h) (Or.inr ⟨by rfl, rfl⟩) ?_ ?_
              rotate_left
              ·
               simp only [Act.put, List.setIfInBounds_toArray, List.set_cons_zero, List.set_cons_succ, i64_w, i32_w]
               rfl
              refine pure_ (i := 25) (N := some 91) (v := undef) (a' := ?_) (ra_ [26, 18]) rfl rfl (any_of HT_.out (by kernel_rfl)) (fun _ _ _ h => h) (Or.inr ⟨by rfl, rfl⟩) ?_ ?_
              rotate_left
              ·
               simp only [Act.put, List.setIfInBounds_toArray, List.set_cons_zero, List.set_cons_succ, i64_w, i32_w]
               rfl
              refine pure_ (i := 26) (N := some 92) (v := undef) (a' := ?_) (ra_ [27, 17]) rfl rfl (any_of HT_.out (by kernel_rfl)) (fun _ _ _ h => h) (Or.inr ⟨by rfl, rfl⟩) ?_ ?_
              rotate_left
              ·
               simp only [Act.put, List.setIfInBounds_toArray, List.set_cons_zero, List.set_cons_succ, i64_w, i32_w]
               rfl
              refine pure_ (i := 27) (N := some 93) (v := undef) (a' := ?_) (ra_ [28, 16]) rfl rfl (any_of HT_.out (by kernel_rfl)) (fun _ _ _ h => h) (Or.inr ⟨by rfl, rfl⟩) ?_ ?_
              rotate_left
              ·
               simp only [Act.put, List.setIfInBounds_toArray, List.set_cons_zero, List.set_cons_succ, i64_w, i32_w]
               rfl
              refine pure_ (i := 28) (N := some 94) (v := undef) (a' := ?_) (ra_ [29, 15]) rfl rfl (any_of HT_.out (by kernel_rfl)) (fun _ _ _ h => h) (Or.inr ⟨by rfl, rfl⟩) ?_ ?_
              rotate_left
              ·
               simp only [Act.put, List.setIfInBounds_toArray, List.set_cons_zero, List.set_cons_succ, i64_w, i32_w]
               rfl
              refine pure_ (i := 29) (N := some 95) (v := undef) (a' := ?_) (ra_ [30, 14]) rfl rfl (any_of HT_.out (by kernel_rfl)) (fun _ _ _ h => h) (Or.inr ⟨by rfl, rfl⟩) ?_ ?_
              rotate_left
              ·
               simp only [Act.put, List.setIfInBounds_toArray, List.set_cons_zero, List.set_cons_succ, i64_w, i32_w]
               rfl
              refine pure_ (i := 30) (N := some 96) (v := undef) (a' := ?_) (ra_ [31, 13]) rfl rfl (any_of HT_.out (by kernel_rfl)) (fun _ _ _ h => h) (Or.inr ⟨by rfl, rfl⟩) ?_ ?_
              rotate_left
              ·
               simp only [Act.put, List.setIfInBounds_toArray, List.set_cons_zero, List.set_cons_succ, i64_w, i32_w]
               rfl
              refine pure_ (i := 31) (N := some 97) (v := undef) (a' := ?_) (ra_ [32, 12]) rfl rfl (any_of HT_.out (by kernel_rfl)) (fun _ _ _ h => h) (Or.inr ⟨by rfl, rfl⟩) ?_ ?_
              rotate_left
              ·
               simp only [Act.put, List.setIfInBounds_toArray, List.set_cons_zero, List.set_cons_succ, i64_w, i32_w]
               rfl
              refine pure_ (i := 32) (N := some 98) (v := undef) (a' := ?_) (ra_ [33, 11]) rfl rfl (any_of HT_.out (by kernel_rfl)) (fun _ _ _ h => h) (Or.inr ⟨by rfl, rfl⟩) ?_ ?_
              rotate_left
              ·
               simp only [Act.put, List.setIfInBounds_toArray, List.set_cons_zero, List.set_cons_succ, i64_w, i32_w]
               rfl
              refine pure_ (i := 33) (N := some 99) (v := undef) (a' := ?_) (ra_ [34, 10]) rfl rfl (any_of HT_.out (by kernel_rfl)) (fun _ _ _ h => h) (Or.inr ⟨by rfl, rfl⟩) ?_ ?_
              rotate_left
              ·
               simp only [Act.put, List.setIfInBounds_toArray, List.set_cons_zero, List.set_cons_succ, i64_w, i32_w]
               rfl
              refine pure_ (i := 34) (N := some 100) (v := undef) (a' := ?_) (ra_ [35, 9]) rfl rfl (any_of HT_.out (by kernel_rfl)) (fun _ _ _ h => h) (Or.inr ⟨by rfl, rfl⟩) ?_ ?_
              rotate_left
              ·
               simp only [Act.put, List.setIfInBounds_toArray, List.set_cons_zero, List.set_cons_succ, i64_w, i32_w]
               rfl
              refine pure_ (i := 35) (N := some 101) (v := undef) (a' := ?_) (ra_ [36, 8]) rfl rfl (any_of HT_.out (by kernel_rfl)) (fun _ _ _ h => h) (Or.inr ⟨by rfl, rfl⟩) ?_ ?_
              rotate_left
              ·
               simp only [Act.put, List.setIfInBounds_toArray, List.set_cons_zero, List.set_cons_succ, i64_w, i32_w]
               rfl
              refine pure_ (i := 36) (N := some 102) (v := undef) (a' := ?_) (ra_ [37, 7]) rfl rfl (any_of HT_.out (by kernel_rfl)) (fun _ _ _ h => h) (Or.inr ⟨by rfl, rfl⟩) ?_ ?_
              rotate_left
              ·
               simp only [Act.put, List.setIfInBounds_toArray, List.set_cons_zero, List.set_cons_succ, i64_w, i32_w]
               rfl
              refine pure_ (i := 37) (N := some 103) (v := ?_) (a' := ?_) (ra_ [38, 6]) rfl rfl (any_of HT_.out (by kernel_rfl)) (fun _ _ _ h => h) (Or.inl ⟨by rfl, ?_⟩) ?_ ?_
              rotate_left
              ·
               intro w'
               go_simp
               with_reducible rfl
              rotate_left
              ·
               simp only [Act.put, List.setIfInBounds_toArray, List.set_cons_zero, List.set_cons_succ, i64_w, i32_w]
               rfl
              refine pure_ (i := 38) (N := some 104) (v := ?_) (a' := ?_) (ra_ [39, 5]) rfl rfl (any_of HT_.out (by kernel_rfl)) (fun _ _ _ h => h) (Or.inl ⟨by rfl, ?_⟩) ?_ ?_
              rotate_left
              ·
               intro w'
               go_simp
               with_reducible rfl
              rotate_left
              ·
               simp only [Act.put, List.setIfInBounds_toArray, List.set_cons_zero, List.set_cons_succ, i64_w, i32_w]
               rfl
              refine pure_ (i := 39) (N := some 105) (v := undef) (a' := ?_) (ra_ [40, 4]) rfl rfl (any_of HT_.out (by kernel_rfl)) (fun _ _ _ h => h) (Or.inr ⟨by rfl, rfl⟩) ?_ ?_
              rotate_left
              ·
               simp only [Act.put, List.setIfInBounds_toArray, List.set_cons_zero, List.set_cons_succ, i64_w, i32_w]
               rfl
              refine pure_ (i := 40) (N := some 106) (v := undef) (a' := ?_) (ra_ [41, 3]) rfl rfl (any_of HT_.out (by kernel_rfl)) (fun _ _ _ h => h) (Or.inr ⟨by rfl, rfl⟩) ?_ ?_
              rotate_left
              ·
               simp only [Act.put, List.setIfInBounds_toArray, List.set_cons_zero, List.set_cons_succ, i64_w, i32_w]
               rfl
              refine pure_ (i := 41) (N := some 107) (v := undef) (a' := ?_) (ra_ [42, 2]) rfl rfl (any_of HT_.out (by kernel_rfl)) (fun _ _ _ h => h) (Or.inr ⟨by rfl, rfl⟩) ?_ ?_
              rotate_left
              ·
               simp only [Act.put, List.setIfInBounds_toArray, List.set_cons_zero, List.set_cons_succ, i64_w, i32_w]
               rfl
              refine pure_ (i := 42) (N := some 108) (v := undef) (a' := ?_) (ra_ [43, 1]) rfl rfl (any_of HT_.out (by kernel_rfl)) (fun _ _ _ h => h) (Or.inr ⟨by rfl, rfl⟩) ?_ ?_
              rotate_left
              ·
               simp only [Act.put, List.setIfInBounds_toArray, List.set_cons_zero, List.set_cons_succ, i64_w, i32_w]
               rfl
              refine pure_ (i := 43) (N := some 109) (v := ?_) (a' := ?_) (ra_ [44]) rfl rfl (any_of HT_.out (by kernel_rfl)) (fun _ _ _ h => h) (Or.inl ⟨by rfl, ?_⟩) ?_ ?_
              rotate_left
              ·
               intro w'
               go_simp
               with_reducible rfl
              rotate_left
              ·
               simp only [Act.put, List.setIfInBounds_toArray, List.set_cons_zero, List.set_cons_succ, i64_w, i32_w]
               rfl
              refine done_ (done_of HT_.out (by kernel_rfl)) ?_
              try go_wp2
              go_meet
              case rel => exact ⟨_, (true), (by first | rfl | (simp; done) | (simp [*]; done) | (simp <;> grind)), H', ⟨by have := HK1.out; have := HK2.out; first | omega | exact Nat.le_refl _⟩, ⟨by (with_reducible repeat (first | apply Kd.R_alloc | apply Kd.R_drewN | apply Kd.R_drew)); exact HO_10.out⟩, ⟨by (with_reducible repeat (first | apply Kd.R_alloc | apply Kd.R_drewN | apply Kd.R_drew)); exact HO_12.out⟩, ⟨by (with_reducible repeat (first | apply Kd.R_alloc | apply Kd.R_drewN | apply Kd.R_drew)); exact HO_59.out⟩, ⟨by (with_reducible repeat (first | refine blk_drewN ?_ _ | refine blk_drew ?_ | refine blk_alloc ?_ _)); exact BK240.out⟩, ⟨by (with_reducible repeat (first | refine blk_drewN ?_ _ | refine blk_drew ?_ | refine blk_alloc ?_ _)); exact BK248.out⟩, ⟨by repeat (first | (with_reducible first | exact HB.out | apply below_alloc | apply pw_below_drewN | apply below_drew1 | refine below_set ?_ GE240.out | refine below_set ?_ GE248.out) | exact HB.out)⟩⟩
             ·
              rw [if_neg c45] at H
              have c45b0 : decide (a2 ≤ ((rd_T68 t228 x61_2).f0)) = false := decide_eq_false c45
              clear c45
              by_cases c48 : a3 = 0
              ·
               rw [if_pos c48] at H
               exact absurd H (by simp)
              ·
               rw [if_neg c48] at H
               have c48b0 : (a3 == 0) = false := beq_eq_false_iff_ne.mpr c48
               have c48b1 : (a3 != 0) = true := bne_iff_ne.mpr c48
               by_cases c49 : (Int.tmod (wrap64 (((rd_T68 t228 x61_2).f0) - a1)) a3) = 0
               ·
                rw [if_pos c49] at H
                have c49b0 : ((Int.tmod (wrap64 (((rd_T68 t228 x61_2).f0) - a1)) a3) == 0) = true := beq_iff_eq.mpr c49
                have c49b1 : ((Int.tmod (wrap64 (((rd_T68 t228 x61_2).f0) - a1)) a3) != 0) = false := bne_eq_false_iff_eq.mpr c49
                clear c49
                by_cases c50 : x61_2 > 0
                ·
                 rw [if_pos c50] at H
                 have c50b0 : decide (0 < x61_2) = true := decide_eq_true c50
                 clear c50
                 obtain ⟨ji51, hji51⟩ : ∃ j_ : Int, (wrap64 (x61_2 - 1)) = j_ := ⟨_, rfl⟩
                 replace H : (if 0 ≤ (ji51) then (if (ji51) < (t228.length : Int) then (if ((rd_T68 t228 x61_2).f0) ≤ ((rd_T68 t228 (ji51)).f0) then (marigraphlaw12_AggWhole.j2 k2 a1 a2 a3 t224 t228 x12_1 t228 (t228.length : Int) x61_2 true x241000_2 x241001_2 x241002_2 x241003_2 x241004_2 x241005_2 ((rd_T68 t228 x61_2).f0) ((rd_T68 t228 x61_2).f1.f0) ((rd_T68 t228 x61_2).f1.f1) ((rd_T68 t228 x61_2).f1.f2) ((rd_T68 t228 x61_2).f1.f3) ((rd_T68 t228 x61_2).f1.f4) ((rd_T68 t228 x61_2).f1.f5)) else (marigraphlaw12_AggWhole.j2 k2 a1 a2 a3 t224 t228 x12_1 t228 (t228.length : Int) x61_2 (decide (((rd_T68 t228 x61_2).f1.f0) < 1)) x241000_2 x241001_2 x241002_2 x241003_2 x241004_2 x241005_2 ((rd_T68 t228 x61_2).f0) ((rd_T68 t228 x61_2).f1.f0) ((rd_T68 t228 x61_2).f1.f1) ((rd_T68 t228 x61_2).f1.f2) ((rd_T68 t228 x61_2).f1.f3) ((rd_T68 t228 x61_2).f1.f4) ((rd_T68 t228 x61_2).f1.f5))) else (none)) else (none)) = some r := by first | (rw [hji51] at H; exact H) | (simp only [hji51] at H ⊢; exact H)
                 have hji51w : (IntKind.i64.wrap (x61_2 - 1)) = ji51 := (i64_w _).trans hji51
                 by_cases c52 : 0 ≤ (ji51)
                 ·
                  rw [if_pos c52] at H
                  have c52b0 : decide (0 ≤ (ji51)) = true := decide_eq_true c52
                  clear c52
                  by_cases c53 : (ji51) < (t228.length : Int)
                  ·
                   rw [if_pos c53] at H
                   have c53b0 : decide ((ji51) < (t228.length : Int)) = true := decide_eq_true c53
                   clear c53
                   by_cases c54 : ((rd_T68 t228 x61_2).f0) ≤ ((rd_T68 t228 (ji51)).f0)
                   ·
                    rw [if_pos c54] at H
                    have c54b0 : decide (((rd_T68 t228 x61_2).f0) ≤ ((rd_T68 t228 (ji51)).f0)) = true := decide_eq_true c54
                    clear c54
                    have H' := Aside0.mk H
                    clear H
                    try go_wp2
                    have p249 : 0 ≤ ((ji51) : Int) := of_decide_eq_true (by first | (with_reducible assumption) | assumption)
                    have q249 : (ji51) < (t228.length : Int) := of_decide_eq_true (by first | (with_reducible assumption) | assumption)
                    obtain ⟨ad249, e249, hx249_0, hx249_1, hx249_2, hx249_3, hx249_4, hx249_5, hx249_6⟩ := at_T68 (Kd.R_reads' HO_10.out).2.2 (ji51) p249 q249
                    obtain rfl : ad247 = ad249 := (by injection e249)
                    replace p249 := eq_true p249
                    replace q249 := eq_true q249
                    refine start_ (n := 44) (S := fun w' => w'.cell? ⟨gb248, 0, none⟩ = some (.int .i64 ((rd_T68 t228 x61_2).f0)) ∧ w'.cell? ⟨gb248, 1, none⟩ = some (.int .i64 ((rd_T68 t228 x61_2).f1.f0)) ∧ w'.cell? ⟨gb248, 2, none⟩ = some (.int .i64 ((rd_T68 t228 x61_2).f1.f1)) ∧ w'.cell? ⟨gb248, 3, none⟩ = some (.int .i64 ((rd_T68 t228 x61_2).f1.f2)) ∧ w'.cell? ⟨gb248, 4, none⟩ = some (.int .i64 ((rd_T68 t228 x61_2).f1.f3)) ∧ w'.cell? ⟨gb248, 5, none⟩ = some (.int .i64 ((rd_T68 t228 x61_2).f1.f4)) ∧ w'.cell? ⟨gb248, 6, none⟩ = some (.int .i64 ((rd_T68 t228 x61_2).f1.f5)) ∧ w'.cell? (ad247.add (((ji51)).toNat * 7)) = some (.int .i64 ((rd_T68 t228 (ji51)).f0)) ∧ w'.cell? ⟨(ad247.add (((ji51)).toNat * 7)).block, (ad247.add (((ji51)).toNat * 7)).off + 1, none⟩ = some (.int .i64 ((rd_T68 t228 (ji51)).f1.f0)) ∧ w'.cell? ⟨(ad247.add (((ji51)).toNat * 7)).block, (ad247.add (((ji51)).toNat * 7)).off + 2, none⟩ = some (.int .i64 ((rd_T68 t228 (ji51)).f1.f1)) ∧ w'.cell? ⟨(ad247.add (((ji51)).toNat * 7)).block, (ad247.add (((ji51)).toNat * 7)).off + 3, none⟩ = some (.int .i64 ((rd_T68 t228 (ji51)).f1.f2)) ∧ w'.cell? ⟨(ad247.add (((ji51)).toNat * 7)).block, (ad247.add (((ji51)).toNat * 7)).off + 4, none⟩ = some (.int .i64 ((rd_T68 t228 (ji51)).f1.f3)) ∧ w'.cell? ⟨(ad247.add (((ji51)).toNat * 7)).block, (ad247.add (((ji51)).toNat * 7)).off + 5, none⟩ = some (.int .i64 ((rd_T68 t228 (ji51)).f1.f4)) ∧ w'.cell? ⟨(ad247.add (((ji51)).toNat * 7)).block, (ad247.add (((ji51)).toNat * 7)).off + 6, none⟩ = some (.int .i64 ((rd_T68 t228 (ji51)).f1.f5))) (ds := []) (ra_ [0, 44]) (by kernel_rfl) rfl rfl ⟨(blk_cell BK248.out 0).trans rfl, (blk_cell BK248.out 1).trans rfl, (blk_cell BK248.out 2).trans rfl, (blk_cell BK248.out 3).trans rfl, (blk_cell BK248.out 4).trans rfl, (blk_cell BK248.out 5).trans rfl, (blk_cell BK248.out 6).trans rfl, hx249_0, hx249_1, hx249_2, hx249_3, hx249_4, hx249_5, hx249_6⟩ (fun hHeld => ?_); refine with_tabW marigraphlaw12_AggWhole.tab16 marigraphlaw12_AggWhole.bits16 (fun HT_ HW_ => ?_)
                    generalize w40.drew = w56 at HO_10 HO_12 HO_59 BK240 BK248 HB hx249_0 hx249_1 hx249_2 hx249_3 hx249_4 hx249_5 hx249_6 hHeld ⊢
                    refine pure_ (i := 0) (N := some 66) (v := ?_) (a' := ?_) (ra_ [1, 43]) rfl rfl (any_of HT_.out (by kernel_rfl)) (fun _ _ _ h => h) (Or.inl ⟨by rfl, ?_⟩) ?_ ?_
                    rotate_left
                    ·
                     intro w'
                     go_simp
                     with_reducible rfl
                    rotate_left
                    ·
                     simp only [Act.put, List.setIfInBounds_toArray, List.set_cons_zero, List.set_cons_succ, i64_w, i32_w]
                     rfl
                    refine pure_ (i := 1) (N := some 67) (v := ?_) (a' := ?_) (ra_ [2, 42]) rfl rfl (any_of HT_.out (by kernel_rfl)) (fun _ _ _ h => h) (Or.inl ⟨by rfl, ?_⟩) ?_ ?_
                    rotate_left
                    ·
                     intro w'
                     go_simp
                     with_reducible rfl
                    rotate_left
                    ·
                     simp only [Act.put, List.setIfInBounds_toArray, List.set_cons_zero, List.set_cons_succ, i64_w, i32_w]
                     rfl
                    refine pure_ (i := 2) (N := some 68) (v := ?_) (a' := ?_) (ra_ [3, 41]) rfl rfl (any_of HT_.out (by kernel_rfl)) (fun _ _ _ h => h) (Or.inl ⟨by rfl, ?_⟩) ?_ ?_
                    rotate_left
                    ·
                     intro w'
                     go_simp
                     with_reducible rfl
                    rotate_left
                    ·
                     simp only [Act.put, List.setIfInBounds_toArray, List.set_cons_zero, List.set_cons_succ, i64_w, i32_w]
                     rfl
                    refine pure_ (i := 3) (N := some 69) (v := ?_) (a' := ?_) (ra_ [4, 40]) rfl rfl (any_of HT_.out (by kernel_rfl)) (fun _ _ _ h => h) (Or.inl ⟨by rfl, ?_⟩) ?_ ?_
                    rotate_left
                    ·
                     intro w'
                     go_simp
                     with_reducible rfl
                    rotate_left
                    ·
                     simp only [Act.put, List.setIfInBounds_toArray, List.set_cons_zero, List.set_cons_succ, i64_w, i32_w]
                     rfl
                    refine pure_ (i := 5) (N := some 71) (v := ?_) (a' := ?_) (ra_ [4, 1, 1, 38]) rfl rfl (any_of HT_.out (by kernel_rfl)) (fun _ _ _ h => h) (Or.inl ⟨by rfl, ?_⟩) ?_ ?_
                    rotate_left
                    ·
                     intro w'
                     go_simp
                     with_reducible rfl
                    rotate_left
                    ·
                     simp only [Act.put, List.setIfInBounds_toArray, List.set_cons_zero, List.set_cons_succ, i64_w, i32_w]
                     rfl
                    refine take_ (i := 4) (N := some 70) (v := ?_) (a' := ?_) (ra_ [6, 38]) rfl rfl (take_ofW HT_.out HW_.out (by kernel_rfl)) (fun _ _ _ h => h) (Or.inl ⟨by rfl, ?_⟩) hHeld ?_ ?_
                    rotate_left
                    ·
                     rintro w' ⟨s0, s1, s2, s3, s4, s5, s6, s7, s8, s9, s10, s11, s12, s13⟩
                     go_simp
                     with_reducible rfl
                    rotate_left
                    ·
                     simp only [Act.put, List.setIfInBounds_toArray, List.set_cons_zero, List.set_cons_succ, i64_w, i32_w]
                     rfl
                    refine pure_ (i := 6) (N := some 72) (v := ?_) (a' := ?_) (ra_ [7, 37]) rfl rfl (any_of HT_.out (by kernel_rfl)) (fun _ _ _ h => h) (Or.inl ⟨by rfl, ?_⟩) ?_ ?_
                    rotate_left
                    ·
                     intro w'
                     go_simp
                     with_reducible rfl
                    rotate_left
                    ·
                     simp only [Act.put, List.setIfInBounds_toArray, List.set_cons_zero, List.set_cons_succ, i64_w, i32_w]
                     rfl
                    refine pure_ (i := 7) (N := some 73) (v := ?_) (a' := ?_) (ra_ [8, 36]) rfl rfl (any_of HT_.out (by kernel_rfl)) (fun _ _ _ h => h) (Or.inl ⟨by rfl, ?_⟩) ?_ ?_
                    rotate_left
                    ·
                     intro w'
                     go_simp
                     with_reducible rfl
                    rotate_left
                    ·
                     simp only [Act.put, List.setIfInBounds_toArray, List.set_cons_zero, List.set_cons_succ, i64_w, i32_w]
                     rfl
                    refine pure_ (i := 8) (N := some 74) (v := ?_) (a' := ?_) (ra_ [9, 35]) rfl rfl (any_of HT_.out (by kernel_rfl)) (fun _ _ _ h => h) (Or.inl ⟨by rfl, ?_⟩) ?_ ?_
                    rotate_left
                    ·
                     intro w'
                     go_simp
                     with_reducible rfl
                    rotate_left
                    ·
                     simp only [Act.put, List.setIfInBounds_toArray, List.set_cons_zero, List.set_cons_succ, i64_w, i32_w]
                     rfl
                    refine pure_ (i := 9) (N := some 75) (v := ?_) (a' := ?_) (ra_ [10, 34]) rfl rfl (any_of HT_.out (by kernel_rfl)) (fun _ _ _ h => h) (Or.inl ⟨by rfl, ?_⟩) ?_ ?_
                    rotate_left
                    ·
                     intro w'
                     go_simp
                     with_reducible rfl
                    rotate_left
                    ·
                     simp only [Act.put, List.setIfInBounds_toArray, List.set_cons_zero, List.set_cons_succ, i64_w, i32_w]
                     rfl
                    refine pure_ (i := 11) (N := some 77) (v := ?_) (a' := ?_) (ra_ [10, 1, 1, 32]) rfl rfl (any_of HT_.out (by kernel_rfl)) (fun _ _ _ h => h) (Or.inl ⟨by rfl, ?_⟩) ?_ ?_
                    rotate_left
                    ·
                     intro w'
                     go_simp
                     with_reducible rfl
                    rotate_left
                    ·
                     simp only [Act.put, List.setIfInBounds_toArray, List.set_cons_zero, List.set_cons_succ, i64_w, i32_w]
                     rfl
                    refine take_ (i := 10) (N := some 76) (v := ?_) (a' := ?_) (ra_ [12, 32]) rfl rfl (take_ofW HT_.out HW_.out (by kernel_rfl)) (fun _ _ _ h => h) (Or.inl ⟨by rfl, ?_⟩) hHeld ?_ ?_
                    rotate_left
                    ·
                     rintro w' ⟨s0, s1, s2, s3, s4, s5, s6, s7, s8, s9, s10, s11, s12, s13⟩
                     go_simp
                     with_reducible rfl
                    rotate_left
                    ·
                     simp only [Act.put, List.setIfInBounds_toArray, List.set_cons_zero, List.set_cons_succ, i64_w, i32_w]
                     rfl
                    refine pure_ (i := 12) (N := some 78) (v := ?_) (a' := ?_) (ra_ [13, 31]) rfl rfl (any_of HT_.out (by kernel_rfl)) (fun _ _ _ h => h) (Or.inl ⟨by rfl, ?_⟩) ?_ ?_
                    rotate_left
                    ·
                     intro w'
                     go_simp
                     with_reducible rfl
                    rotate_left
                    ·
                     simp only [Act.put, List.setIfInBounds_toArray, List.set_cons_zero, List.set_cons_succ, i64_w, i32_w]
                     rfl
                    refine pure_ (i := 13) (N := some 79) (v := ?_) (a' := ?_) (ra_ [14, 30]) rfl rfl (any_of HT_.out (by kernel_rfl)) (fun _ _ _ h => h) (Or.inl ⟨by rfl, ?_⟩) ?_ ?_
                    rotate_left
                    ·
                     intro w'
                     go_simp
                     with_reducible rfl
                    rotate_left
                    ·
                     simp only [Act.put, List.setIfInBounds_toArray, List.set_cons_zero, List.set_cons_succ, i64_w, i32_w]
                     rfl
                    refine pure_ (i := 14) (N := some 80) (v := ?_) (a' := ?_) (ra_ [15, 29]) rfl rfl (any_of HT_.out (by kernel_rfl)) (fun _ _ _ h => h) (Or.inl ⟨by rfl, ?_⟩) ?_ ?_
                    rotate_left
                    ·
                     intro w'
                     go_simp
                     with_reducible rfl
                    rotate_left
                    ·
                     simp only [Act.put, List.setIfInBounds_toArray, List.set_cons_zero, List.set_cons_succ, i64_w, i32_w]
                     rfl
                    refine pure_ (i := 15) (N := some 81) (v := ?_) (a' := ?_) (ra_ [16, 28]) rfl rfl (any_of HT_.out (by kernel_rfl)) (fun _ _ _ h => h) (Or.inl ⟨by rfl, ?_⟩) ?_ ?_
                    rotate_left
                    ·
                     intro w'
                     go_simp
                     with_reducible rfl
                    rotate_left
                    ·
                     simp only [Act.put, List.setIfInBounds_toArray, List.set_cons_zero, List.set_cons_succ, i64_w, i32_w]
                     rfl
                    refine pure_ (i := 17) (N := some 83) (v := ?_) (a' := ?_) (ra_ [16, 1, 1, 26]) rfl rfl (any_of HT_.out (by kernel_rfl)) (fun _ _ _ h => h) (Or.inl ⟨by rfl, ?_⟩) ?_ ?_
                    rotate_left
                    ·
                     intro w'
                     go_simp
                     with_reducible rfl
                    rotate_left
                    ·
                     simp only [Act.put, List.setIfInBounds_toArray, List.set_cons_zero, List.set_cons_succ, i64_w, i32_w]
                     rfl
                    refine pure_ (i := 19) (N := some 85) (v := ?_) (a' := ?_) (ra_ [16, 1, 1, 1, 1, 24]) rfl rfl (any_of HT_.out (by kernel_rfl)) (fun _ _ _ h => h) (Or.inl ⟨by rfl, ?_⟩) ?_ ?_
                    rotate_left
                    ·
                     intro w'
                     go_simp
                     with_reducible rfl
                    rotate_left
                    ·
                     simp only [Act.put, List.setIfInBounds_toArray, List.set_cons_zero, List.set_cons_succ, i64_w, i32_w]
                     rfl
                    refine take_ (i := 16) (N := some 82) (v := ?_) (a' := ?_) (ra_ [18, 1, 1, 24]) rfl rfl (take_ofW HT_.out HW_.out (by kernel_rfl)) (fun _ _ _ h => h) (Or.inl ⟨by rfl, ?_⟩) hHeld ?_ ?_
                    rotate_left
                    ·
                     rintro w' ⟨s0, s1, s2, s3, s4, s5, s6, s7, s8, s9, s10, s11, s12, s13⟩
                     go_simp
                     with_reducible rfl
                    rotate_left
                    ·
                     simp only [Act.put, List.setIfInBounds_toArray, List.set_cons_zero, List.set_cons_succ, i64_w, i32_w]
                     rfl
                    refine pure_ (i := 18) (N := some 84) (v := ?_) (a' := ?_) (ra_ [20, 24]) rfl rfl (any_of HT_.out (by kernel_rfl)) (fun _ _ _ h => h) (Or.inl ⟨by rfl, ?_⟩) ?_ ?_
                    rotate_left
                    ·
                     intro w'
                     go_simp
                     with_reducible rfl
                    rotate_left
                    ·
                     simp only [Act.put, List.setIfInBounds_toArray, List.set_cons_zero, List.set_cons_succ, i64_w, i32_w]
                     rfl
                    refine pure_ (i := 20) (N := some 86) (v := ?_) (a' := ?_) (ra_ [21, 23]) rfl rfl (any_of HT_.out (by kernel_rfl)) (fun _ _ _ h => h) (Or.inl ⟨by rfl, ?_⟩) ?_ ?_
                    rotate_left
                    ·
                     intro w'
                     go_simp
                     with_reducible rfl
                    rotate_left
                    ·
                     simp only [Act.put, List.setIfInBounds_toArray, List.set_cons_zero, List.set_cons_succ, i64_w, i32_w]
                     rfl
                    refine pure_ (i := 21) (N := some 87) (v := ?_) (a' := ?_) (ra_ [22, 22]) rfl rfl (any_of HT_.out (by kernel_rfl)) (fun _ _ _ h => h) (Or.inl ⟨by rfl, ?_⟩) ?_ ?_
                    rotate_left
                    ·
                     intro w'
                     go_simp
                     with_reducible rfl
                    rotate_left
                    ·
                     simp only [Act.put, List.setIfInBounds_toArray, List.set_cons_zero, List.set_cons_succ, i64_w, i32_w]
                     rfl
                    refine pure_ (i := 22) (N := some 88) (v := ?_) (a' := ?_) (ra_ [23, 21]) rfl rfl (any_of HT_.out (by kernel_rfl)) (fun _ _ _ h => h) (Or.inl ⟨by rfl, ?_⟩) ?_ ?_
                    rotate_left
                    ·
                     intro w'
                     go_simp
                     with_reducible rfl
                    rotate_left
                    ·
                     simp only [Act.put, List.setIfInBounds_toArray, List.set_cons_zero, List.set_cons_succ, i64_w, i32_w]
                     rfl
                    refine pure_ (i := 23) (N := some 89) (v := ?_) (a' := ?_) (ra_ [24, 20]) rfl rfl (any_of HT_.out (by kernel_rfl)) (fun _ _ _ h => h) (Or.inl ⟨by rfl, ?_⟩) ?_ ?_
                    rotate_left
                    ·
                     intro w'
                     go_simp
                     with_reducible rfl
                    rotate_left
                    ·
                     simp only [Act.put, List.setIfInBounds_toArray, List.set_cons_zero, List.set_cons_succ, i64_w, i32_w]
                     rfl
                    refine pure_ (i := 24) (N := some 90) (v := ?_) (a' := ?_) (ra_ [25, 19]) rfl rfl (any_of HT_.out (by kernel_rfl)) (fun _ _ _ h => h) (Or.inl ⟨by rfl, ?_⟩) ?_ ?_
                    rotate_left
                    ·
                     intro w'
                     go_simp
                     with_reducible rfl
                    rotate_left
                    ·
                     simp only [Act.put, List.setIfInBounds_toArray, List.set_cons_zero, List.set_cons_succ, i64_w, i32_w]
                     rfl
                    refine pure_ (i := 25) (N := some 91) (v := ?_) (a' := ?_) (ra_ [26, 18]) rfl rfl (any_of HT_.out (by kernel_rfl)) (fun _ _ _ h => h) (Or.inl ⟨by rfl, ?_⟩) ?_ ?_
                    rotate_left
                    ·
                     intro w'
                     go_simp
                     with_reducible rfl
                    rotate_left
                    ·
                     simp only [Act.put, List.setIfInBounds_toArray, List.set_cons_zero, List.set_cons_succ, i64_w, i32_w]
                     rfl
                    refine pure_ (i := 26) (N := some 92) (v := ?_) (a' := ?_) (ra_ [27, 17]) rfl rfl (any_of HT_.out (by kernel_rfl)) (fun _ _ _ h => h) (Or.inl ⟨by rfl, ?_⟩) ?_ ?_
                    rotate_left
                    ·
                     intro w'
                     go_simp
                     with_reducible rfl
                    rotate_left
                    ·
                     simp only [Act.put, List.setIfInBounds_toArray, List.set_cons_zero, List.set_cons_succ, i64_w, i32_w]
                     rfl
                    refine pure_ (i := 27) (N := some 93) (v := ?_) (a' := ?_) (ra_ [28, 16]) rfl rfl (any_of HT_.out (by kernel_rfl)) (fun _ _ _ h => h) (Or.inl ⟨by rfl, ?_⟩) ?_ ?_
                    rotate_left
                    ·
                     intro w'
                     go_simp
                     with_reducible rfl
                    rotate_left
                    ·
                     simp only [Act.put, List.setIfInBounds_toArray, List.set_cons_zero, List.set_cons_succ, i64_w, i32_w]
                     rfl
                    refine pure_ (i := 29) (N := some 95) (v := ?_) (a' := ?_) (ra_ [28, 1, 1, 14]) rfl rfl (any_of HT_.out (by kernel_rfl)) (fun _ _ _ h => h) (Or.inl ⟨by rfl, ?_⟩) ?_ ?_
                    rotate_left
                    ·
                     intro w'
                     go_simp
                     with_reducible rfl
                    rotate_left
                    ·
                     simp only [Act.put, List.setIfInBounds_toArray, List.set_cons_zero, List.set_cons_succ, i64_w, i32_w]
                     rfl
                    refine pure_ (i := 30) (N := some 96) (v := ?_) (a' := ?_) (ra_ [28, 1, 2, 13]) rfl rfl (any_of HT_.out (by kernel_rfl)) (fun _ _ _ h => h) (Or.inl ⟨by rfl, ?_⟩) ?_ ?_
                    rotate_left
                    ·
                     intro w'
                     go_simp
                     with_reducible rfl
                    rotate_left
                    ·
                     simp only [Act.put, List.setIfInBounds_toArray, List.set_cons_zero, List.set_cons_succ, i64_w, i32_w]
                     rfl
                    refine pure_ (i := 31) (N := some 97) (v := ?_) (a' := ?_) (ra_ [28, 1, 3, 12]) rfl rfl (any_of HT_.out (by kernel_rfl)) (fun _ _ _ h => h) (Or.inl ⟨by rfl, ?_⟩) ?_ ?_
                    rotate_left
                    ·
                     intro w'
                     go_simp
                     with_reducible rfl
                    rotate_left
                    ·
                     simp only [Act.put, List.setIfInBounds_toArray, List.set_cons_zero, List.set_cons_succ, i64_w, i32_w]
                     rfl
                    refine pure_ (i := 32) (N := some 98) (v := ?_) (a' := ?_) (ra_ [28, 1, 4, 11]) rfl rfl (any_of HT_.out (by kernel_rfl)) (fun _ _ _ h => h) (Or.inl ⟨by rfl, ?_⟩) ?_ ?_
                    rotate_left
                    ·
                     intro w'
                     go_simp
                     with_reducible rfl
                    rotate_left
                    ·
                     simp only [Act.put, List.setIfInBounds_toArray, List.set_cons_zero, List.set_cons_succ, i64_w, i32_w]
                     rfl
                    refine pure_ (i := 33) (N := some 99) (v := ?_) (a' := ?_) (ra_ [28, 1, 5, 10]) rfl rfl (any_of HT_.out (by kernel_rfl)) (fun _ _ _ h => h) (Or.inl ⟨by rfl, ?_⟩) ?_ ?_
                    rotate_left
                    ·
                     intro w'
                     go_simp
                     with_reducible rfl
                    rotate_left
                    ·
                     simp only [Act.put, List.setIfInBounds_toArray, List.set_cons_zero, List.set_cons_succ, i64_w, i32_w]
                     rfl
                    refine take_ (i := 28) (N := some 94) (v := ?_) (a' := ?_) (ra_ [34, 10]) rfl rfl (take_ofW HT_.out HW_.out (by kernel_rfl)) (fun _ _ _ h => h) (Or.inl ⟨by rfl, ?_⟩) hHeld ?_ ?_
                    rotate_left
                    ·
                     rintro w' ⟨s0, s1, s2, s3, s4, s5, s6, s7, s8, s9, s10, s11, s12, s13⟩
                     go_simp
                     with_reducible rfl
                    rotate_left
                    ·
                     simp only [Act.put, List.setIfInBounds_toArray, List.set_cons_zero, List.set_cons_succ, i64_w, i32_w]
                     rfl
                    refine take_ (i := 34) (N := some 100) (v := ?_) (a' := ?_) (ra_ [35, 9]) rfl rfl (take_ofW HT_.out HW_.out (by kernel_rfl)) (fun _ _ _ h => h) (Or.inl ⟨by rfl, ?_⟩) hHeld ?_ ?_
                    rotate_left
                    ·
                     rintro w' ⟨s0, s1, s2, s3, s4, s5, s6, s7, s8, s9, s10, s11, s12, s13⟩
                     go_simp
                     with_reducible rfl
                    rotate_left
                    ·
                     simp only [Act.put, List.setIfInBounds_toArray, List.set_cons_zero, List.set_cons_succ, i64_w, i32_w]
                     rfl
                    refine pure_ (i := 35) (N := some 101) (v := ?_) (a' := ?_) (ra_ [36, 8]) rfl rfl (any_of HT_.out (by kernel_rfl)) (fun _ _ _ h => h) (Or.inl ⟨by rfl, ?_⟩) ?_ ?_
                    rotate_left
                    ·
                     intro w'
                     go_simp
                     with_reducible rfl
                    rotate_left
                    ·
                     simp only [Act.put, List.setIfInBounds_toArray, List.set_cons_zero, List.set_cons_succ, i64_w, i32_w]
                     rfl
                    refine pure_ (i := 36) (N := some 102) (v := ?_) (a' := ?_) (ra_ [37, 7]) rfl rfl (any_of HT_.out (by kernel_rfl)) (fun _ _ _ h => h) (Or.inl ⟨by rfl, ?_⟩) ?_ ?_
                    rotate_left
                    ·
                     intro w'
                     go_simp
                     with_reducible rfl
                    rotate_left
                    ·
                     simp only [Act.put, List.setIfInBounds_toArray, List.set_cons_zero, List.set_cons_succ, i64_w, i32_w]
                     rfl
                    refine pure_ (i := 37) (N := some 103) (v := ?_) (a' := ?_) (ra_ [38, 6]) rfl rfl (any_of HT_.out (by kernel_rfl)) (fun _ _ _ h => h) (Or.inl ⟨by rfl, ?_⟩) ?_ ?_
                    rotate_left
                    ·
                     intro w'
                     go_simp
                     with_reducible rfl
                    rotate_left
                    ·
                     simp only [Act.put, List.setIfInBounds_toArray, List.set_cons_zero, List.set_cons_succ, i64_w, i32_w]
                     rfl
                    refine pure_ (i := 38) (N := some 104) (v := ?_) (a' := ?_) (ra_ [39, 5]) rfl rfl (any_of HT_.out (by kernel_rfl)) (fun _ _ _ h => h) (Or.inl ⟨by rfl, ?_⟩) ?_ ?_
                    rotate_left
                    ·
                     intro w'
                     go_simp
                     with_reducible rfl
                    rotate_left
                    ·
                     simp only [Act.put, List.setIfInBounds_toArray, List.set_cons_zero, List.set_cons_succ, i64_w, i32_w]
                     rfl
                    refine pure_ (i := 39) (N := some 105) (v := undef) (a' := ?_) (ra_ [40, 4]) rfl rfl (any_of HT_.out (by kernel_rfl)) (fun _ _ _ h => h) (Or.inr ⟨by rfl, rfl⟩) ?_ ?_
                    rotate_left
                    ·
                     simp only [Act.put, List.setIfInBounds_toArray, List.set_cons_zero, List.set_cons_succ, i64_w, i32_w]
                     rfl
                    refine pure_ (i := 40) (N := some 106) (v := undef) (a' := ?_) (ra_ [41, 3]) rfl rfl (any_of HT_.out (by kernel_rfl)) (fun _ _ _ h => h) (Or.inr ⟨by rfl, rfl⟩) ?_ ?_
                    rotate_left
                    ·
                     simp only [Act.put, List.setIfInBounds_toArray, List.set_cons_zero, List.set_cons_succ, i64_w, i32_w]
                     rfl
                    refine pure_ (i := 41) (N := some 107) (v := undef) (a' := ?_) (ra_ [42, 2]) rfl rfl (any_of HT_.out (by kernel_rfl)) (fun _ _ _ h => h) (Or.inr ⟨by rfl, rfl⟩) ?_ ?_
                    rotate_left
                    ·
                     simp only [Act.put, List.setIfInBounds_toArray, List.set_cons_zero, List.set_cons_succ, i64_w, i32_w]
                     rfl
                    refine pure_ (i := 42) (N := some 108) (v := undef) (a' := ?_) (ra_ [43, 1]) rfl rfl (any_of HT_.out (by kernel_rfl)) (fun _ _ _ h => h) (Or.inr ⟨by rfl, rfl⟩) ?_ ?_
                    rotate_left
                    ·
                     simp only [Act.put, List.setIfInBounds_toArray, List.set_cons_zero, List.set_cons_succ, i64_w, i32_w]
                     rfl
                    refine pure_ (i := 43) (N := some 109) (v := ?_) (a' := ?_) (ra_ [44]) rfl rfl (any_of HT_.out (by kernel_rfl)) (fun _ _ _ h => h) (Or.inl ⟨by rfl, ?_⟩) ?_ ?_
                    rotate_left
                    ·
                     intro w'
                     go_simp
                     with_reducible rfl
                    rotate_left
                    ·
                     simp only [Act.put, List.setIfInBounds_toArray, List.set_cons_zero, List.set_cons_succ, i64_w, i32_w]
                     rfl
                    refine done_ (done_of HT_.out (by kernel_rfl)) ?_
                    try go_wp2
                    go_meet
                    case rel => exact ⟨_, (true), (by first | rfl | (simp; done) | (simp [*]; done) | (simp <;> grind)), (by first | exact H' | (simp only [hji51]; exact H')), ⟨by have := HK1.out; have := HK2.out; first | omega | exact Nat.le_refl _⟩, ⟨by (with_reducible repeat (first | apply Kd.R_alloc | apply Kd.R_drewN | apply Kd.R_drew)); exact HO_10.out⟩, ⟨by (with_reducible repeat (first | apply Kd.R_alloc | apply Kd.R_drewN | apply Kd.R_drew)); exact HO_12.out⟩, ⟨by (with_reducible repeat (first | apply Kd.R_alloc | apply Kd.R_drewN | apply Kd.R_drew)); exact HO_59.out⟩, ⟨by (with_reducible repeat (first | refine blk_drewN ?_ _ | refine blk_drew ?_ | refine blk_alloc ?_ _)); exact BK240.out⟩, ⟨by (with_reducible repeat (first | refine blk_drewN ?_ _ | refine blk_drew ?_ | refine blk_alloc ?_ _)); exact BK248.out⟩, ⟨by repeat (first | (with_reducible first | exact HB.out | apply below_alloc | apply pw_below_drewN | apply below_drew1 | refine below_set ?_ GE240.out | refine below_set ?_ GE248.out) | exact HB.out)⟩⟩
                   ·
                    rw [if_neg c54] at H
                    have c54b0 : decide (((rd_T68 t228 x61_2).f0) ≤ ((rd_T68 t228 (ji51)).f0)) = false := decide_eq_false c54
                    clear c54
                    have H' := Aside0.mk H
                    clear H
                    try go_wp2
                    have p249 : 0 ≤ ((ji51) : Int) := of_decide_eq_true (by first | (with_reducible assumption) | assumption)
                    have q249 : (ji51) < (t228.length : Int) := of_decide_eq_true (by first | (with_reducible assumption) | assumption)
                    obtain ⟨ad249, e249, hx249_0, hx249_1, hx249_2, hx249_3, hx249_4, hx249_5, hx249_6⟩ := at_T68 (Kd.R_reads' HO_10.out).2.2 (ji51) p249 q249
                    obtain rfl : ad247 = ad249 := (by injection e249)
                    replace p249 := eq_true p249
                    replace q249 := eq_true q249
                    refine start_ (n := 44) (S := fun w' => w'.cell? ⟨gb248, 0, none⟩ = some (.int .i64 ((rd_T68 t228 x61_2).f0)) ∧ w'.cell? ⟨gb248, 1, none⟩ = some (.int .i64 ((rd_T68 t228 x61_2).f1.f0)) ∧ w'.cell? ⟨gb248, 2, none⟩ = some (.int .i64 ((rd_T68 t228 x61_2).f1.f1)) ∧ w'.cell? ⟨gb248, 3, none⟩ = some (.int .i64 ((rd_T68 t228 x61_2).f1.f2)) ∧ w'.cell? ⟨gb248, 4, none⟩ = some (.int .i64 ((rd_T68 t228 x61_2).f1.f3)) ∧ w'.cell? ⟨gb248, 5, none⟩ = some (.int .i64 ((rd_T68 t228 x61_2).f1.f4)) ∧ w'.cell? ⟨gb248, 6, none⟩ = some (.int .i64 ((rd_T68 t228 x61_2).f1.f5)) ∧ w'.cell? (ad247.add (((ji51)).toNat * 7)) = some (.int .i64 ((rd_T68 t228 (ji51)).f0)) ∧ w'.cell? ⟨(ad247.add (((ji51)).toNat * 7)).block, (ad247.add (((ji51)).toNat * 7)).off + 1, none⟩ = some (.int .i64 ((rd_T68 t228 (ji51)).f1.f0)) ∧ w'.cell? ⟨(ad247.add (((ji51)).toNat * 7)).block, (ad247.add (((ji51)).toNat * 7)).off + 2, none⟩ = some (.int .i64 ((rd_T68 t228 (ji51)).f1.f1)) ∧ w'.cell? ⟨(ad247.add (((ji51)).toNat * 7)).block, (ad247.add (((ji51)).toNat * 7)).off + 3, none⟩ = some (.int .i64 ((rd_T68 t228 (ji51)).f1.f2)) ∧ w'.cell? ⟨(ad247.add (((ji51)).toNat * 7)).block, (ad247.add (((ji51)).toNat * 7)).off + 4, none⟩ = some (.int .i64 ((rd_T68 t228 (ji51)).f1.f3)) ∧ w'.cell? ⟨(ad247.add (((ji51)).toNat * 7)).block, (ad247.add (((ji51)).toNat * 7)).off + 5, none⟩ = some (.int .i64 ((rd_T68 t228 (ji51)).f1.f4)) ∧ w'.cell? ⟨(ad247.add (((ji51)).toNat * 7)).block, (ad247.add (((ji51)).toNat * 7)).off + 6, none⟩ = some (.int .i64 ((rd_T68 t228 (ji51)).f1.f5))) (ds := []) (ra_ [0, 44]) (by kernel_rfl) rfl rfl ⟨(blk_cell BK248.out 0).trans rfl, (blk_cell BK248.out 1).trans rfl, (blk_cell BK248.out 2).trans rfl, (blk_cell BK248.out 3).trans rfl, (blk_cell BK248.out 4).trans rfl, (blk_cell BK248.out 5).trans rfl, (blk_cell BK248.out 6).trans rfl, hx249_0, hx249_1, hx249_2, hx249_3, hx249_4, hx249_5, hx249_6⟩ (fun hHeld => ?_); refine with_tabW marigraphlaw12_AggWhole.tab16 marigraphlaw12_AggWhole.bits16 (fun HT_ HW_ => ?_)
                    generalize w40.drew = w58 at HO_10 HO_12 HO_59 BK240 BK248 HB hx249_0 hx249_1 hx249_2 hx249_3 hx249_4 hx249_5 hx249_6 hHeld ⊢
                    refine pure_ (i := 0) (N := some 66) (v := ?_) (a' := ?_) (ra_ [1, 43]) rfl rfl (any_of HT_.out (by kernel_rfl)) (fun _ _ _ h => h) (Or.inl ⟨by rfl, ?_⟩) ?_ ?_
                    rotate_left
                    ·
                     intro w'
                     go_simp
                     with_reducible rfl
                    rotate_left
                    ·
                     simp only [Act.put, List.setIfInBounds_toArray, List.set_cons_zero, List.set_cons_succ, i64_w, i32_w]
                     rfl
                    refine pure_ (i := 1) (N := some 67) (v := ?_) (a' := ?_) (ra_ [2, 42]) rfl rfl (any_of HT_.out (by kernel_rfl)) (fun _ _ _ h => h) (Or.inl ⟨by rfl, ?_⟩) ?_ ?_
                    rotate_left
                    ·
                     intro w'
                     go_simp
                     with_reducible rfl
                    rotate_left
                    ·
                     simp only [Act.put, List.setIfInBounds_toArray, List.set_cons_zero, List.set_cons_succ, i64_w, i32_w]
                     rfl
                    refine pure_ (i := 2) (N := some 68) (v := ?_) (a' := ?_) (ra_ [3, 41]) rfl rfl (any_of HT_.out (by kernel_rfl)) (fun _ _ _ h => h) (Or.inl ⟨by rfl, ?_⟩) ?_ ?_
                    rotate_left
                    ·
                     intro w'
                     go_simp
                     with_reducible rfl
                    rotate_left
                    ·
                     simp only [Act.put, List.setIfInBounds_toArray, List.set_cons_zero, List.set_cons_succ, i64_w, i32_w]
                     rfl
                    refine pure_ (i := 3) (N := some 69) (v := ?_) (a' := ?_) (ra_ [4, 40]) rfl rfl (any_of HT_.out (by kernel_rfl)) (fun _ _ _ h => h) (Or.inl ⟨by rfl, ?_⟩) ?_ ?_
                    rotate_left
                    ·
                     intro w'
                     go_simp
                     with_reducible rfl
                    rotate_left
                    ·
                     simp only [Act.put, List.setIfInBounds_toArray, List.set_cons_zero, List.set_cons_succ, i64_w, i32_w]
                     rfl
                    refine pure_ (i := 5) (N := some 71) (v := ?_) (a' := ?_) (ra_ [4, 1, 1, 38]) rfl rfl (any_of HT_.out (by kernel_rfl)) (fun _ _ _ h => h) (Or.inl ⟨by rfl, ?_⟩) ?_ ?_
                    rotate_left
                    ·
                     intro w'
                     go_simp
                     with_reducible rfl
                    rotate_left
                    ·
                     simp only [Act.put, List.setIfInBounds_toArray, List.set_cons_zero, List.set_cons_succ, i64_w, i32_w]
                     rfl
                    refine take_ (i := 4) (N := some 70) (v := ?_) (a' := ?_) (ra_ [6, 38]) rfl rfl (take_ofW HT_.out HW_.out (by kernel_rfl)) (fun _ _ _ h => h) (Or.inl ⟨by rfl, ?_⟩) hHeld ?_ ?_
                    rotate_left
                    ·
                     rintro w' ⟨s0, s1, s2, s3, s4, s5, s6, s7, s8, s9, s10, s11, s12, s13⟩
                     go_simp
                     with_reducible rfl
                    rotate_left
                    ·
                     simp only [Act.put, List.setIfInBounds_toArray, List.set_cons_zero, List.set_cons_succ, i64_w, i32_w]
                     rfl
                    refine pure_ (i := 6) (N := some 72) (v := ?_) (a' := ?_) (ra_ [7, 37]) rfl rfl (any_of HT_.out (by kernel_rfl)) (fun _ _ _ h => h) (Or.inl ⟨by rfl, ?_⟩) ?_ ?_
                    rotate_left
                    ·
                     intro w'
                     go_simp
                     with_reducible rfl
                    rotate_left
                    ·
                     simp only [Act.put, List.setIfInBounds_toArray, List.set_cons_zero, List.set_cons_succ, i64_w, i32_w]
                     rfl
                    refine pure_ (i := 7) (N := some 73) (v := ?_) (a' := ?_) (ra_ [8, 36]) rfl rfl (any_of HT_.out (by kernel_rfl)) (fun _ _ _ h => h) (Or.inl ⟨by rfl, ?_⟩) ?_ ?_
                    rotate_left
                    ·
                     intro w'
                     go_simp
                     with_reducible rfl
                    rotate_left
                    ·
                     simp only [Act.put, List.setIfInBounds_toArray, List.set_cons_zero, List.set_cons_succ, i64_w, i32_w]
                     rfl
                    refine pure_ (i := 8) (N := some 74) (v := ?_) (a' := ?_) (ra_ [9, 35]) rfl rfl (any_of HT_.out (by kernel_rfl)) (fun _ _ _ h => h) (Or.inl ⟨by rfl, ?_⟩) ?_ ?_
                    rotate_left
                    ·
                     intro w'
                     go_simp
                     with_reducible rfl
                    rotate_left
                    ·
                     simp only [Act.put, List.setIfInBounds_toArray, List.set_cons_zero, List.set_cons_succ, i64_w, i32_w]
                     rfl
                    refine pure_ (i := 9) (N := some 75) (v := ?_) (a' := ?_) (ra_ [10, 34]) rfl rfl (any_of HT_.out (by kernel_rfl)) (fun _ _ _ h => h) (Or.inl ⟨by rfl, ?_⟩) ?_ ?_
                    rotate_left
                    ·
                     intro w'
                     go_simp
                     with_reducible rfl
                    rotate_left
                    ·
                     simp only [Act.put, List.setIfInBounds_toArray, List.set_cons_zero, List.set_cons_succ, i64_w, i32_w]
                     rfl
                    refine pure_ (i := 11) (N := some 77) (v := ?_) (a' := ?_) (ra_ [10, 1, 1, 32]) rfl rfl (any_of HT_.out (by kernel_rfl)) (fun _ _ _ h => h) (Or.inl ⟨by rfl, ?_⟩) ?_ ?_
                    rotate_left
                    ·
                     intro w'
                     go_simp
                     with_reducible rfl
                    rotate_left
                    ·
                     simp only [Act.put, List.setIfInBounds_toArray, List.set_cons_zero, List.set_cons_succ, i64_w, i32_w]
                     rfl
                    refine take_ (i := 10) (N := some 76) (v := ?_) (a' := ?_) (ra_ [12, 32]) rfl rfl (take_ofW HT_.out HW_.out (by kernel_rfl)) (fun _ _ _ h => h) (Or.inl ⟨by rfl, ?_⟩) hHeld ?_ ?_
                    rotate_left
                    ·
                     rintro w' ⟨s0, s1, s2, s3, s4, s5, s6, s7, s8, s9, s10, s11, s12, s13⟩
                     go_simp
                     with_reducible rfl
                    rotate_left
                    ·
                     simp only [Act.put, List.setIfInBounds_toArray, List.set_cons_zero, List.set_cons_succ, i64_w, i32_w]
                     rfl
                    refine pure_ (i := 12) (N := some 78) (v := ?_) (a' := ?_) (ra_ [13, 31]) rfl rfl (any_of HT_.out (by kernel_rfl)) (fun _ _ _ h => h) (Or.inl ⟨by rfl, ?_⟩) ?_ ?_
                    rotate_left
                    ·
                     intro w'
                     go_simp
                     with_reducible rfl
                    rotate_left
                    ·
                     simp only [Act.put, List.setIfInBounds_toArray, List.set_cons_zero, List.set_cons_succ, i64_w, i32_w]
                     rfl
                    refine pure_ (i := 13) (N := some 79) (v := ?_) (a' := ?_) (ra_ [14, 30]) rfl rfl (any_of HT_.out (by kernel_rfl)) (fun _ _ _ h => h) (Or.inl ⟨by rfl, ?_⟩) ?_ ?_
                    rotate_left
                    ·
                     intro w'
                     go_simp
                     with_reducible rfl
                    rotate_left
                    ·
                     simp only [Act.put, List.setIfInBounds_toArray, List.set_cons_zero, List.set_cons_succ, i64_w, i32_w]
                     rfl
                    refine pure_ (i := 14) (N := some 80) (v := ?_) (a' := ?_) (ra_ [15, 29]) rfl rfl (any_of HT_.out (by kernel_rfl)) (fun _ _ _ h => h) (Or.inl ⟨by rfl, ?_⟩) ?_ ?_
                    rotate_left
                    ·
                     intro w'
                     go_simp
                     with_reducible rfl
                    rotate_left
                    ·
                     simp only [Act.put, List.setIfInBounds_toArray, List.set_cons_zero, List.set_cons_succ, i64_w, i32_w]
                     rfl
                    refine pure_ (i := 15) (N := some 81) (v := ?_) (a' := ?_) (ra_ [16, 28]) rfl rfl (any_of HT_.out (by kernel_rfl)) (fun _ _ _ h => h) (Or.inl ⟨by rfl, ?_⟩) ?_ ?_
                    rotate_left
                    ·
                     intro w'
                     go_simp
                     with_reducible rfl
                    rotate_left
                    ·
                     simp only [Act.put, List.setIfInBounds_toArray, List.set_cons_zero, List.set_cons_succ, i64_w, i32_w]
                     rfl
                    refine pure_ (i := 17) (N := some 83) (v := ?_) (a' := ?_) (ra_ [16, 1, 1, 26]) rfl rfl (any_of HT_.out (by kernel_rfl)) (fun _ _ _ h => h) (Or.inl ⟨by rfl, ?_⟩) ?_ ?_
                    rotate_left
                    ·
                     intro w'
                     go_simp
                     with_reducible rfl
                    rotate_left
                    ·
                     simp only [Act.put, List.setIfInBounds_toArray, List.set_cons_zero, List.set_cons_succ, i64_w, i32_w]
                     rfl
                    refine pure_ (i := 19) (N := some 85) (v := ?_) (a' := ?_) (ra_ [16, 1, 1, 1, 1, 24]) rfl rfl (any_of HT_.out (by kernel_rfl)) (fun _ _ _ h => h) (Or.inl ⟨by rfl, ?_⟩) ?_ ?_
                    rotate_left
                    ·
                     intro w'
                     go_simp
                     with_reducible rfl
                    rotate_left
                    ·
                     simp only [Act.put, List.setIfInBounds_toArray, List.set_cons_zero, List.set_cons_succ, i64_w, i32_w]
                     rfl
                    refine take_ (i := 16) (N := some 82) (v := ?_) (a' := ?_) (ra_ [18, 1, 1, 24]) rfl rfl (take_ofW HT_.out HW_.out (by kernel_rfl)) (fun _ _ _ h => h) (Or.inl ⟨by rfl, ?_⟩) hHeld ?_ ?_
                    rotate_left
                    ·
                     rintro w' ⟨s0, s1, s2, s3, s4, s5, s6, s7, s8, s9, s10, s11, s12, s13⟩
                     go_simp
                     with_reducible rfl
                    rotate_left
                    ·
                     simp only [Act.put, List.setIfInBounds_toArray, List.set_cons_zero, List.set_cons_succ, i64_w, i32_w]
                     rfl
                    refine pure_ (i := 18) (N := some 84) (v := ?_) (a' := ?_) (ra_ [20, 24]) rfl rfl (any_of HT_.out (by kernel_rfl)) (fun _ _ _ h => h) (Or.inl ⟨by rfl, ?_⟩) ?_ ?_
                    rotate_left
                    ·
                     intro w'
                     go_simp
                     with_reducible rfl
                    rotate_left
                    ·
                     simp only [Act.put, List.setIfInBounds_toArray, List.set_cons_zero, List.set_cons_succ, i64_w, i32_w]
                     rfl
                    refine pure_ (i := 20) (N := some 86) (v := ?_) (a' := ?_) (ra_ [21, 23]) rfl rfl (any_of HT_.out (by kernel_rfl)) (fun _ _ _ h => h) (Or.inl ⟨by rfl, ?_⟩) ?_ ?_
                    rotate_left
                    ·
                     intro w'
                     go_simp
                     with_reducible rfl
                    rotate_left
                    ·
                     simp only [Act.put, List.setIfInBounds_toArray, List.set_cons_zero, List.set_cons_succ, i64_w, i32_w]
                     rfl
                    refine pure_ (i := 21) (N := some 87) (v := ?_) (a' := ?_) (ra_ [22, 22]) rfl rfl (any_of HT_.out (by kernel_rfl)) (fun _ _ _ h => h) (Or.inl ⟨by rfl, ?_⟩) ?_ ?_
                    rotate_left
                    ·
                     intro w'
                     go_simp
                     with_reducible rfl
                    rotate_left
                    ·
                     simp only [Act.put, List.setIfInBounds_toArray, List.set_cons_zero, List.set_cons_succ, i64_w, i32_w]
                     rfl
                    refine pure_ (i := 22) (N := some 88) (v := ?_) (a' := ?_) (ra_ [23, 21]) rfl rfl (any_of HT_.out (by kernel_rfl)) (fun _ _ _ h => h) (Or.inl ⟨by rfl, ?_⟩) ?_ ?_
                    rotate_left
                    ·
                     intro w'
                     go_simp
                     with_reducible rfl
                    rotate_left
                    ·
                     simp only [Act.put, List.setIfInBounds_toArray, List.set_cons_zero, List.set_cons_succ, i64_w, i32_w]
                     rfl
                    refine pure_ (i := 23) (N := some 89) (v := ?_) (a' := ?_) (ra_ [24, 20]) rfl rfl (any_of HT_.out (by kernel_rfl)) (fun _ _ _ h => h) (Or.inl ⟨by rfl, ?_⟩) ?_ ?_
                    rotate_left
                    ·
                     intro w'
                     go_simp
                     with_reducible rfl
                    rotate_left
                    ·
                     simp only [Act.put, List.setIfInBounds_toArray, List.set_cons_zero, List.set_cons_succ, i64_w, i32_w]
                     rfl
                    refine pure_ (i := 24) (N := some 90) (v := ?_) (a' := ?_) (ra_ [25, 19]) rfl rfl (any_of HT_.out (by kernel_rfl)) (fun _ _ _ h => h) (Or.inl ⟨by rfl, ?_⟩) ?_ ?_
                    rotate_left
                    ·
                     intro w'
                     go_simp
                     with_reducible rfl
                    rotate_left
                    ·
                     simp only [Act.put, List.setIfInBounds_toArray, List.set_cons_zero, List.set_cons_succ, i64_w, i32_w]
                     rfl
                    refine pure_ (i := 25) (N := some 91) (v := ?_) (a' := ?_) (ra_ [26, 18]) rfl rfl (any_of HT_.out (by kernel_rfl)) (fun _ _ _ h => h) (Or.inl ⟨by rfl, ?_⟩) ?_ ?_
                    rotate_left
                    ·
                     intro w'
                     go_simp
                     with_reducible rfl
                    rotate_left
                    ·
                     simp only [Act.put, List.setIfInBounds_toArray, List.set_cons_zero, List.set_cons_succ, i64_w, i32_w]
                     rfl
                    refine pure_ (i := 26) (N := some 92) (v := ?_) (a' := ?_) (ra_ [27, 17]) rfl rfl (any_of HT_.out (by kernel_rfl)) (fun _ _ _ h => h) (Or.inl ⟨by rfl, ?_⟩) ?_ ?_
                    rotate_left
                    ·
                     intro w'
                     go_simp
                     with_reducible rfl
                    rotate_left
                    ·
                     simp only [Act.put, List.setIfInBounds_toArray, List.set_cons_zero, List.set_cons_succ, i64_w, i32_w]
                     rfl
                    refine pure_ (i := 27) (N := some 93) (v := ?_) (a' := ?_) (ra_ [28, 16]) rfl rfl (any_of HT_.out (by kernel_rfl)) (fun _ _ _ h => h) (Or.inl ⟨by rfl, ?_⟩) ?_ ?_
                    rotate_left
                    ·
                     intro w'
                     go_simp
                     with_reducible rfl
                    rotate_left
                    ·
                     simp only [Act.put, List.setIfInBounds_toArray, List.set_cons_zero, List.set_cons_succ, i64_w, i32_w]
                     rfl
                    refine pure_ (i := 29) (N := some 95) (v := ?_) (a' := ?_) (ra_ [28, 1, 1, 14]) rfl rfl (any_of HT_.out (by kernel_rfl)) (fun _ _ _ h => h) (Or.inl ⟨by rfl, ?_⟩) ?_ ?_
                    rotate_left
                    ·
                     intro w'
                     go_simp
                     with_reducible rfl
                    rotate_left
                    ·
                     simp only [Act.put, List.setIfInBounds_toArray, List.set_cons_zero, List.set_cons_succ, i64_w, i32_w]
                     rfl
                    refine pure_ (i := 30) (N := some 96) (v := ?_) (a' := ?_) (ra_ [28, 1, 2, 13]) rfl rfl (any_of HT_.out (by kernel_rfl)) (fun _ _ _ h => h) (Or.inl ⟨by rfl, ?_⟩) ?_ ?_
                    rotate_left
                    ·
                     intro w'
                     go_simp
                     with_reducible rfl
                    rotate_left
                    ·
                     simp only [Act.put, List.setIfInBounds_toArray, List.set_cons_zero, List.set_cons_succ, i64_w, i32_w]
                     rfl
                    refine pure_ (i := 31) (N := some 97) (v := ?_) (a' := ?_) (ra_ [28, 1, 3, 12]) rfl rfl (any_of HT_.out (by kernel_rfl)) (fun _ _ _ h => h) (Or.inl ⟨by rfl, ?_⟩) ?_ ?_
                    rotate_left
                    ·
                     intro w'
                     go_simp
                     with_reducible rfl
                    rotate_left
                    ·
                     simp only [Act.put, List.setIfInBounds_toArray, List.set_cons_zero, List.set_cons_succ, i64_w, i32_w]
                     rfl
                    refine pure_ (i := 32) (N := some 98) (v := ?_) (a' := ?_) (ra_ [28, 1, 4, 11]) rfl rfl (any_of HT_.out (by kernel_rfl)) (fun _ _ _ h => h) (Or.inl ⟨by rfl, ?_⟩) ?_ ?_
                    rotate_left
                    ·
                     intro w'
                     go_simp
                     with_reducible rfl
                    rotate_left
                    ·
                     simp only [Act.put, List.setIfInBounds_toArray, List.set_cons_zero, List.set_cons_succ, i64_w, i32_w]
                     rfl
                    refine pure_ (i := 33) (N := some 99) (v := ?_) (a' := ?_) (ra_ [28, 1, 5, 10]) rfl rfl (any_of HT_.out (by kernel_rfl)) (fun _ _ _ h => h) (Or.inl ⟨by rfl, ?_⟩) ?_ ?_
                    rotate_left
                    ·
                     intro w'
                     go_simp
                     with_reducible rfl
                    rotate_left
                    ·
                     simp only [Act.put, List.setIfInBounds_toArray, List.set_cons_zero, List.set_cons_succ, i64_w, i32_w]
                     rfl
                    refine take_ (i := 28) (N := some 94) (v := ?_) (a' := ?_) (ra_ [34, 10]) rfl rfl (take_ofW HT_.out HW_.out (by kernel_rfl)) (fun _ _ _ h => h) (Or.inl ⟨by rfl, ?_⟩) hHeld ?_ ?_
                    rotate_left
                    ·
                     rintro w' ⟨s0, s1, s2, s3, s4, s5, s6, s7, s8, s9, s10, s11, s12, s13⟩
                     go_simp
                     with_reducible rfl
                    rotate_left
                    ·
                     simp only [Act.put, List.setIfInBounds_toArray, List.set_cons_zero, List.set_cons_succ, i64_w, i32_w]
                     rfl
                    refine take_ (i := 34) (N := some 100) (v := ?_) (a' := ?_) (ra_ [35, 9]) rfl rfl (take_ofW HT_.out HW_.out (by kernel_rfl)) (fun _ _ _ h => h) (Or.inl ⟨by rfl, ?_⟩) hHeld ?_ ?_
                    rotate_left
                    ·
                     rintro w' ⟨s0, s1, s2, s3, s4, s5, s6, s7, s8, s9, s10, s11, s12, s13⟩
                     go_simp
                     with_reducible rfl
                    rotate_left
                    ·
                     simp only [Act.put, List.setIfInBounds_toArray, List.set_cons_zero, List.set_cons_succ, i64_w, i32_w]
                     rfl
                    refine pure_ (i := 35) (N := some 101) (v := ?_) (a' := ?_) (ra_ [36, 8]) rfl rfl (any_of HT_.out (by kernel_rfl)) (fun _ _ _ h => h) (Or.inl ⟨by rfl, ?_⟩) ?_ ?_
                    rotate_left
                    ·
                     intro w'
                     go_simp
                     with_reducible rfl
                    rotate_left
                    ·
                     simp only [Act.put, List.setIfInBounds_toArray, List.set_cons_zero, List.set_cons_succ, i64_w, i32_w]
                     rfl
                    refine pure_ (i := 36) (N := some 102) (v := ?_) (a' := ?_) (ra_ [37, 7]) rfl rfl (any_of HT_.out (by kernel_rfl)) (fun _ _ _ h => h) (Or.inl ⟨by rfl, ?_⟩) ?_ ?_
                    rotate_left
                    ·
                     intro w'
                     go_simp
                     with_reducible rfl
                    rotate_left
                    ·
                     simp only [Act.put, List.setIfInBounds_toArray, List.set_cons_zero, List.set_cons_succ, i64_w, i32_w]
                     rfl
                    refine pure_ (i := 37) (N := some 103) (v := ?_) (a' := ?_) (ra_ [38, 6]) rfl rfl (any_of HT_.out (by kernel_rfl)) (fun _ _ _ h => h) (Or.inl ⟨by rfl, ?_⟩) ?_ ?_
                    rotate_left
                    ·
                     intro w'
                     go_simp
                     with_reducible rfl
                    rotate_left
                    ·
                     simp only [Act.put, List.setIfInBounds_toArray, List.set_cons_zero, List.set_cons_succ, i64_w, i32_w]
                     rfl
                    refine pure_ (i := 38) (N := some 104) (v := ?_) (a' := ?_) (ra_ [39, 5]) rfl rfl (any_of HT_.out (by kernel_rfl)) (fun _ _ _ h => h) (Or.inl ⟨by rfl, ?_⟩) ?_ ?_
                    rotate_left
                    ·
                     intro w'
                     go_simp
                     with_reducible rfl
                    rotate_left
                    ·
                     simp only [Act.put, List.setIfInBounds_toArray, List.set_cons_zero, List.set_cons_succ, i64_w, i32_w]
                     rfl
                    refine pure_ (i := 39) (N := some 105) (v := ?_) (a' := ?_) (ra_ [40, 4]) rfl rfl (any_of HT_.out (by kernel_rfl)) (fun _ _ _ h => h) (Or.inl ⟨by rfl, ?_⟩) ?_ ?_
                    rotate_left
                    ·
                     intro w'
                     go_simp
                     with_reducible rfl
                    rotate_left
                    ·
                     simp only [Act.put, List.setIfInBounds_toArray, List.set_cons_zero, List.set_cons_succ, i64_w, i32_w]
                     rfl
                    refine pure_ (i := 40) (N := some 106) (v := ?_) (a' := ?_) (ra_ [41, 3]) rfl rfl (any_of HT_.out (by kernel_rfl)) (fun _ _ _ h => h) (Or.inl ⟨by rfl, ?_⟩) ?_ ?_
                    rotate_left
                    ·
                     intro w'
                     go_simp
                     with_reducible rfl
                    rotate_left
                    ·
                     simp only [Act.put, List.setIfInBounds_toArray, List.set_cons_zero, List.set_cons_succ, i64_w, i32_w]
                     rfl
                    refine take_ (i := 41) (N := some 107) (v := ?_) (a' := ?_) (ra_ [42, 2]) rfl rfl (take_ofW HT_.out HW_.out (by kernel_rfl)) (fun _ _ _ h => h) (Or.inl ⟨by rfl, ?_⟩) hHeld ?_ ?_
                    rotate_left
                    ·
                     rintro w' ⟨s0, s1, s2, s3, s4, s5, s6, s7, s8, s9, s10, s11, s12, s13⟩
                     go_simp
                     with_reducible rfl
                    rotate_left
                    ·
                     simp only [Act.put, List.setIfInBounds_toArray, List.set_cons_zero, List.set_cons_succ, i64_w, i32_w]
                     rfl
                    refine pure_ (i := 42) (N := some 108) (v := ?_) (a' := ?_) (ra_ [43, 1]) rfl rfl (any_of HT_.out (by kernel_rfl)) (fun _ _ _ h => h) (Or.inl ⟨by rfl, ?_⟩) ?_ ?_
                    rotate_left
                    ·
                     intro w'
                     go_simp
                     with_reducible rfl
                    rotate_left
                    ·
                     simp only [Act.put, List.setIfInBounds_toArray, List.set_cons_zero, List.set_cons_succ, i64_w, i32_w]
                     rfl
                    refine pure_ (i := 43) (N := some 109) (v := ?_) (a' := ?_) (ra_ [44]) rfl rfl (any_of HT_.out (by kernel_rfl)) (fun _ _ _ h => h) (Or.inl ⟨by rfl, ?_⟩) ?_ ?_
                    rotate_left
                    ·
                     intro w'
                     go_simp
                     with_reducible rfl
                    rotate_left
                    ·
                     simp only [Act.put, List.setIfInBounds_toArray, List.set_cons_zero, List.set_cons_succ, i64_w, i32_w]
                     rfl
                    refine done_ (done_of HT_.out (by kernel_rfl)) ?_
                    try go_wp2
                    go_meet
                    case rel => exact ⟨_, (decide (((rd_T68 t228 x61_2).f1.f0) < 1)), (by first | rfl | (simp; done) | (simp [*]; done) | (simp <;> grind)), (by first | exact H' | (simp only [hji51]; exact H')), ⟨by have := HK1.out; have := HK2.out; first | omega | exact Nat.le_refl _⟩, ⟨by (with_reducible repeat (first | apply Kd.R_alloc | apply Kd.R_drewN | apply Kd.R_drew)); exact HO_10.out⟩, ⟨by (with_reducible repeat (first | apply Kd.R_alloc | apply Kd.R_drewN | apply Kd.R_drew)); exact HO_12.out⟩, ⟨by (with_reducible repeat (first | apply Kd.R_alloc | apply Kd.R_drewN | apply Kd.R_drew)); exact HO_59.out⟩, ⟨by (with_reducible repeat (first | refine blk_drewN ?_ _ | refine blk_drew ?_ | refine blk_alloc ?_ _)); exact BK240.out⟩, ⟨by (with_reducible repeat (first | refine blk_drewN ?_ _ | refine blk_drew ?_ | refine blk_alloc ?_ _)); exact BK248.out⟩, ⟨by repeat (first | (with_reducible first | exact HB.out | apply below_alloc | apply pw_below_drewN | apply below_drew1 | refine below_set ?_ GE240.out | refine below_set ?_ GE248.out) | exact HB.out)⟩⟩
                  ·
                   rw [if_neg c53] at H
                   exact absurd H (by simp)
                 ·
                  rw [if_neg c52] at H
                  exact absurd H (by simp)
                ·
                 rw [if_neg c50] at H
                 have c50b0 : decide (0 < x61_2) = false := decide_eq_false c50
                 clear c50
                 have H' := Aside0.mk H
                 clear H
                 try go_wp2
                 refine start_ (n := 44) (S := fun w' => w'.cell? ⟨gb248, 0, none⟩ = some (.int .i64 ((rd_T68 t228 x61_2).f0)) ∧ w'.cell? ⟨gb248, 1, none⟩ = some (.int .i64 ((rd_T68 t228 x61_2).f1.f0)) ∧ w'.cell? ⟨gb248, 2, none⟩ = some (.int .i64 ((rd_T68 t228 x61_2).f1.f1)) ∧ w'.cell? ⟨gb248, 3, none⟩ = some (.int .i64 ((rd_T68 t228 x61_2).f1.f2)) ∧ w'.cell? ⟨gb248, 4, none⟩ = some (.int .i64 ((rd_T68 t228 x61_2).f1.f3)) ∧ w'.cell? ⟨gb248, 5, none⟩ = some (.int .i64 ((rd_T68 t228 x61_2).f1.f4)) ∧ w'.cell? ⟨gb248, 6, none⟩ = some (.int .i64 ((rd_T68 t228 x61_2).f1.f5))) (ds := []) (ra_ [0, 44]) (by kernel_rfl) rfl rfl ⟨(blk_cell BK248.out 0).trans rfl, (blk_cell BK248.out 1).trans rfl, (blk_cell BK248.out 2).trans rfl, (blk_cell BK248.out 3).trans rfl, (blk_cell BK248.out 4).trans rfl, (blk_cell BK248.out 5).trans rfl, (blk_cell BK248.out 6).trans rfl⟩ (fun hHeld => ?_); refine with_tabW marigraphlaw12_AggWhole.tab16 marigraphlaw12_AggWhole.bits16 (fun HT_ HW_ => ?_)
                 generalize w40.drew = w60 at HO_10 HO_12 HO_59 BK240 BK248 HB hHeld ⊢
                 refine pure_ (i := 0) (N := some 66) (v := ?_) (a' := ?_) (ra_ [1, 43]) rfl rfl (any_of HT_.out (by kernel_rfl)) (fun _ _ _ h => h) (Or.inl ⟨by rfl, ?_⟩) ?_ ?_
                 rotate_left
                 ·
                  intro w'
                  go_simp
                  with_reducible rfl
                 rotate_left
                 ·
                  simp only [Act.put, List.setIfInBounds_toArray, List.set_cons_zero, List.set_cons_succ, i64_w, i32_w]
                  rfl
                 refine pure_ (i := 1) (N := some 67) (v := ?_) (a' := ?_) (ra_ [2, 42]) rfl rfl (any_of HT_.out (by kernel_rfl)) (fun _ _ _ h => h) (Or.inl ⟨by rfl, ?_⟩) ?_ ?_
                 rotate_left
                 ·
                  intro w'
                  go_simp
                  with_reducible rfl
                 rotate_left
                 ·
                  simp only [Act.put, List.setIfInBounds_toArray, List.set_cons_zero, List.set_cons_succ, i64_w, i32_w]
                  rfl
                 refine pure_ (i := 2) (N := some 68) (v := ?_) (a' := ?_) (ra_ [3, 41]) rfl rfl (any_of HT_.out (by kernel_rfl)) (fun _ _ _ h => h) (Or.inl ⟨by rfl, ?_⟩) ?_ ?_
                 rotate_left
                 ·
                  intro w'
                  go_simp
                  with_reducible rfl
                 rotate_left
                 ·
                  simp only [Act.put, List.setIfInBounds_toArray, List.set_cons_zero, List.set_cons_succ, i64_w, i32_w]
                  rfl
                 refine pure_ (i := 3) (N := some 69) (v := ?_) (a' := ?_) (ra_ [4, 40]) rfl rfl (any_of HT_.out (by kernel_rfl)) (fun _ _ _ h => h) (Or.inl ⟨by rfl, ?_⟩) ?_ ?_
                 rotate_left
                 ·
                  intro w'
                  go_simp
                  with_reducible rfl
                 rotate_left
                 ·
                  simp only [Act.put, List.setIfInBounds_toArray, List.set_cons_zero, List.set_cons_succ, i64_w, i32_w]
                  rfl
                 refine pure_ (i := 5) (N := some 71) (v := ?_) (a' := ?_) (ra_ [4, 1, 1, 38]) rfl rfl (any_of HT_.out (by kernel_rfl)) (fun _ _ _ h => h) (Or.inl ⟨by rfl, ?_⟩) ?_ ?_
                 rotate_left
                 ·
                  intro w'
                  go_simp
                  with_reducible rfl
                 rotate_left
                 ·
                  simp only [Act.put, List.setIfInBounds_toArray, List.set_cons_zero, List.set_cons_succ, i64_w, i32_w]
                  rfl
                 refine take_ (i := 4) (N := some 70) (v := ?_) (a' := ?_) (ra_ [6, 38]) rfl rfl (take_ofW HT_.out HW_.out (by kernel_rfl)) (fun _ _ _ h => h) (Or.inl ⟨by rfl, ?_⟩) hHeld ?_ ?_
                 rotate_left
                 ·
                  rintro w' ⟨s0, s1, s2, s3, s4, s5, s6⟩
                  go_simp
                  with_reducible rfl
                 rotate_left
                 ·
                  simp only [Act.put, List.setIfInBounds_toArray, List.set_cons_zero, List.set_cons_succ, i64_w, i32_w]
                  rfl
                 refine pure_ (i := 6) (N := some 72) (v := ?_) (a' := ?_) (ra_ [7, 37]) rfl rfl (any_of HT_.out (by kernel_rfl)) (fun _ _ _ h => h) (Or.inl ⟨by rfl, ?_⟩) ?_ ?_
                 rotate_left
                 ·
                  intro w'
                  go_simp
                  with_reducible rfl
                 rotate_left
                 ·
                  simp only [Act.put, List.setIfInBounds_toArray, List.set_cons_zero, List.set_cons_succ, i64_w, i32_w]
                  rfl
                 refine pure_ (i := 7) (N := some 73) (v := ?_) (a' := ?_) (ra_ [8, 36]) rfl rfl (any_of HT_.out (by kernel_rfl)) (fun _ _ _ h => h) (Or.inl ⟨by rfl, ?_⟩) ?_ ?_
                 rotate_left
                 ·
                  intro w'
                  go_simp
                  with_reducible rfl
                 rotate_left
                 ·
                  simp only [Act.put, List.setIfInBounds_toArray, List.set_cons_zero, List.set_cons_succ, i64_w, i32_w]
                  rfl
                 refine pure_ (i := 8) (N := some 74) (v := ?_) (a' := ?_) (ra_ [9, 35]) rfl rfl (any_of HT_.out (by kernel_rfl)) (fun _ _ _ h => h) (Or.inl ⟨by rfl, ?_⟩) ?_ ?_
                 rotate_left
                 ·
                  intro w'
                  go_simp
                  with_reducible rfl
                 rotate_left
                 ·
                  simp only [Act.put, List.setIfInBounds_toArray, List.set_cons_zero, List.set_cons_succ, i64_w, i32_w]
                  rfl
                 refine pure_ (i := 9) (N := some 75) (v := ?_) (a' := ?_) (ra_ [10, 34]) rfl rfl (any_of HT_.out (by kernel_rfl)) (fun _ _ _ h => h) (Or.inl ⟨by rfl, ?_⟩) ?_ ?_
                 rotate_left
                 ·
                  intro w'
                  go_simp
                  with_reducible rfl
                 rotate_left
                 ·
                  simp only [Act.put, List.setIfInBounds_toArray, List.set_cons_zero, List.set_cons_succ, i64_w, i32_w]
                  rfl
                 refine pure_ (i := 11) (N := some 77) (v := ?_) (a' := ?_) (ra_ [10, 1, 1, 32]) rfl rfl (any_of HT_.out (by kernel_rfl)) (fun _ _ _ h => h) (Or.inl ⟨by rfl, ?_⟩) ?_ ?_
                 rotate_left
                 ·
                  intro w'
                  go_simp
                  with_reducible rfl
                 rotate_left
                 ·
                  simp only [Act.put, List.setIfInBounds_toArray, List.set_cons_zero, List.set_cons_succ, i64_w, i32_w]
                  rfl
                 refine take_ (i := 10) (N := some 76) (v := ?_) (a' := ?_) (ra_ [12, 32]) rfl rfl (take_ofW HT_.out HW_.out (by kernel_rfl)) (fun _ _ _ h => h) (Or.inl ⟨by rfl, ?_⟩) hHeld ?_ ?_
                 rotate_left
                 ·
                  rintro w' ⟨s0, s1, s2, s3, s4, s5, s6⟩
                  go_simp
                  with_reducible rfl
                 rotate_left
                 ·
                  simp only [Act.put, List.setIfInBounds_toArray, List.set_cons_zero, List.set_cons_succ, i64_w, i32_w]
                  rfl
                 refine pure_ (i := 12) (N := some 78) (v := ?_) (a' := ?_) (ra_ [13, 31]) rfl rfl (any_of HT_.out (by kernel_rfl)) (fun _ _ _ h => h) (Or.inl ⟨by rfl, ?_⟩) ?_ ?_
                 rotate_left
                 ·
                  intro w'
                  go_simp
                  with_reducible rfl
                 rotate_left
                 ·
                  simp only [Act.put, List.setIfInBounds_toArray, List.set_cons_zero, List.set_cons_succ, i64_w, i32_w]
                  rfl
                 refine pure_ (i := 13) (N := some 79) (v := ?_) (a' := ?_) (ra_ [14, 30]) rfl rfl (any_of HT_.out (by kernel_rfl)) (fun _ _ _ h => h) (Or.inl ⟨by rfl, ?_⟩) ?_ ?_
                 rotate_left
                 ·
                  intro w'
                  go_simp
                  with_reducible rfl
                 rotate_left
                 ·
                  simp only [Act.put, List.setIfInBounds_toArray, List.set_cons_zero, List.set_cons_succ, i64_w, i32_w]
                  rfl
                 refine pure_ (i := 14) (N := some 80) (v := ?_) (a' := ?_) (ra_ [15, 29]) rfl rfl (any_of HT_.out (by kernel_rfl)) (fun _ _ _ h => h) (Or.inl ⟨by rfl, ?_⟩) ?_ ?_
                 rotate_left
                 ·
                  intro w'
                  go_simp
                  with_reducible rfl
                 rotate_left
                 ·
                  simp only [Act.put, List.setIfInBounds_toArray, List.set_cons_zero, List.set_cons_succ, i64_w, i32_w]
                  rfl
                 refine pure_ (i := 15) (N := some 81) (v := ?_) (a' := ?_) (ra_ [16, 28]) rfl rfl (any_of HT_.out (by kernel_rfl)) (fun _ _ _ h => h) (Or.inl ⟨by rfl, ?_⟩) ?_ ?_
                 rotate_left
                 ·
                  intro w'
                  go_simp
                  with_reducible rfl
                 rotate_left
                 ·
                  simp only [Act.put, List.setIfInBounds_toArray, List.set_cons_zero, List.set_cons_succ, i64_w, i32_w]
                  rfl
                 refine pure_ (i := 17) (N := some 83) (v := ?_) (a' := ?_) (ra_ [16, 1, 1, 26]) rfl rfl (any_of HT_.out (by kernel_rfl)) (fun _ _ _ h => h) (Or.inl ⟨by rfl, ?_⟩) ?_ ?_
                 rotate_left
                 ·
                  intro w'
                  go_simp
                  with_reducible rfl
                 rotate_left
                 ·
                  simp only [Act.put, List.setIfInBounds_toArray, List.set_cons_zero, List.set_cons_succ, i64_w, i32_w]
                  rfl
                 refine pure_ (i := 19) (N := some 85) (v := ?_) (a' := ?_) (ra_ [16, 1, 1, 1, 1, 24]) rfl rfl (any_of HT_.out (by kernel_rfl)) (fun _ _ _ h => h) (Or.inl ⟨by rfl, ?_⟩) ?_ ?_
                 rotate_left
                 ·
                  intro w'
                  go_simp
                  with_reducible rfl
                 rotate_left
                 ·
                  simp only [Act.put, List.setIfInBounds_toArray, List.set_cons_zero, List.set_cons_succ, i64_w, i32_w]
                  rfl
                 refine take_ (i := 16) (N := some 82) (v := ?_) (a' := ?_) (ra_ [18, 1, 1, 24]) rfl rfl (take_ofW HT_.out HW_.out (by kernel_rfl)) (fun _ _ _ h => h) (Or.inl ⟨by rfl, ?_⟩) hHeld ?_ ?_
                 rotate_left
                 ·
                  rintro w' ⟨s0, s1, s2, s3, s4, s5, s6⟩
                  go_simp
                  with_reducible rfl
                 rotate_left
                 ·
                  simp only [Act.put, List.setIfInBounds_toArray, List.set_cons_zero, List.set_cons_succ, i64_w, i32_w]
                  rfl
                 refine pure_ (i := 18) (N := some 84) (v := ?_) (a' := ?_) (ra_ [20, 24]) rfl rfl (any_of HT_.out (by kernel_rfl)) (fun _ _ _ h => h) (Or.inl ⟨by rfl, ?_⟩) ?_ ?_
                 rotate_left
                 ·
                  intro w'
                  go_simp
                  with_reducible rfl
                 rotate_left
                 ·
                  simp only [Act.put, List.setIfInBounds_toArray, List.set_cons_zero, List.set_cons_succ, i64_w, i32_w]
                  rfl
                 refine pure_ (i := 20) (N := some 86) (v := ?_) (a' := ?_) (ra_ [21, 23]) rfl rfl (any_of HT_.out (by kernel_rfl)) (fun _ _ _ h => h) (Or.inl ⟨by rfl, ?_⟩) ?_ ?_
                 rotate_left
                 ·
                  intro w'
                  go_simp
                  with_reducible rfl
                 rotate_left
                 ·
                  simp only [Act.put, List.setIfInBounds_toArray, List.set_cons_zero, List.set_cons_succ, i64_w, i32_w]
                  rfl
                 refine pure_ (i := 21) (N := some 87) (v := ?_) (a' := ?_) (ra_ [22, 22]) rfl rfl (any_of HT_.out (by kernel_rfl)) (fun _ _ _ h => h) (Or.inl ⟨by rfl, ?_⟩) ?_ ?_
                 rotate_left
                 ·
                  intro w'
                  go_simp
                  with_reducible rfl
                 rotate_left
                 ·
                  simp only [Act.put, List.setIfInBounds_toArray, List.set_cons_zero, List.set_cons_succ, i64_w, i32_w]
                  rfl
                 refine pure_ (i := 22) (N := some 88) (v := ?_) (a' := ?_) (ra_ [23, 21]) rfl rfl (any_of HT_.out (by kernel_rfl)) (fun _ _ _ h => h) (Or.inl ⟨by rfl, ?_⟩) ?_ ?_
                 rotate_left
                 ·
                  intro w'
                  go_simp
                  with_reducible rfl
                 rotate_left
                 ·
                  simp only [Act.put, List.setIfInBounds_toArray, List.set_cons_zero, List.set_cons_succ, i64_w, i32_w]
                  rfl
                 refine pure_ (i := 23) (N := some 89) (v := ?_) (a' := ?_) (ra_ [24, 20]) rfl rfl (any_of HT_.out (by kernel_rfl)) (fun _ _ _ h => h) (Or.inl ⟨by rfl, ?_⟩) ?_ ?_
                 rotate_left
                 ·
                  intro w'
                  go_simp
                  with_reducible rfl
                 rotate_left
                 ·
                  simp only [Act.put, List.setIfInBounds_toArray, List.set_cons_zero, List.set_cons_succ, i64_w, i32_w]
                  rfl
                 refine pure_ (i := 24) (N := some 90) (v := ?_) (a' := ?_) (ra_ [25, 19]) rfl rfl (any_of HT_.out (by kernel_rfl)) (fun _ _ _ h => h) (Or.inl ⟨by rfl, ?_⟩) ?_ ?_
                 rotate_left
                 ·
                  intro w'
                  go_simp
                  with_reducible rfl
                 rotate_left
                 ·
                  simp only [Act.put, List.setIfInBounds_toArray, List.set_cons_zero, List.set_cons_succ, i64_w, i32_w]
                  rfl
                 refine pure_ (i := 25) (N := some 91) (v := ?_) (a' := ?_) (ra_ [26, 18]) rfl rfl (any_of HT_.out (by kernel_rfl)) (fun _ _ _ h => h) (Or.inl ⟨by rfl, ?_⟩) ?_ ?_
                 rotate_left
                 ·
                  intro w'
                  go_simp
                  with_reducible rfl
                 rotate_left
                 ·
                  simp only [Act.put, List.setIfInBounds_toArray, List.set_cons_zero, List.set_cons_succ, i64_w, i32_w]
                  rfl
                 refine pure_ (i := 26) (N := some 92) (v := ?_) (a' := ?_) (ra_ [27, 17]) rfl rfl (any_of HT_.out (by kernel_rfl)) (fun _ _ _ h => h) (Or.inl ⟨by rfl, ?_⟩) ?_ ?_
                 rotate_left
                 ·
                  intro w'
                  go_simp
                  with_reducible rfl
                 rotate_left
                 ·
                  simp only [Act.put, List.setIfInBounds_toArray, List.set_cons_zero, List.set_cons_succ, i64_w, i32_w]
                  rfl
                 refine pure_ (i := 27) (N := some 93) (v := undef) (a' := ?_) (ra_ [28, 16]) rfl rfl (any_of HT_.out (by kernel_rfl)) (fun _ _ _ h => h) (Or.inr ⟨by rfl, rfl⟩) ?_ ?_
                 rotate_left
                 ·
                  simp only [Act.put, List.setIfInBounds_toArray, List.set_cons_zero, List.set_cons_succ, i64_w, i32_w]
                  rfl
                 refine pure_ (i := 28) (N := some 94) (v := undef) (a' := ?_) (ra_ [29, 15]) rfl rfl (any_of HT_.out (by kernel_rfl)) (fun _ _ _ h => h) (Or.inr ⟨by rfl, rfl⟩) ?_ ?_
                 rotate_left
                 ·
                  simp only [Act.put, List.setIfInBounds_toArray, List.set_cons_zero, List.set_cons_succ, i64_w, i32_w]
                  rfl
                 refine pure_ (i := 29) (N := some 95) (v := undef) (a' := ?_) (ra_ [30, 14]) rfl rfl (any_of HT_.out (by kernel_rfl)) (fun _ _ _ h => h) (Or.inr ⟨by rfl, rfl⟩) ?_ ?_
                 rotate_left
                 ·
                  simp only [Act.put, List.setIfInBounds_toArray, List.set_cons_zero, List.set_cons_succ, i64_w, i32_w]
                  rfl
                 refine pure_ (i := 30) (N := some 96) (v := undef) (a' := ?_) (ra_ [31, 13]) rfl rfl (any_of HT_.out (by kernel_rfl)) (fun _ _ _ h => h) (Or.inr ⟨by rfl, rfl⟩) ?_ ?_
                 rotate_left
                 ·
                  simp only [Act.put, List.setIfInBounds_toArray, List.set_cons_zero, List.set_cons_succ, i64_w, i32_w]
                  rfl
                 refine pure_ (i := 31) (N := some 97) (v := undef) (a' := ?_) (ra_ [32, 12]) rfl rfl (any_of HT_.out (by kernel_rfl)) (fun _ _ _ h => h) (Or.inr ⟨by rfl, rfl⟩) ?_ ?_
                 rotate_left
                 ·
                  simp only [Act.put, List.setIfInBounds_toArray, List.set_cons_zero, List.set_cons_succ, i64_w, i32_w]
                  rfl
                 refine pure_ (i := 32) (N := some 98) (v := undef) (a' := ?_) (ra_ [33, 11]) rfl rfl (any_of HT_.out (by kernel_rfl)) (fun _ _ _ h => h) (Or.inr ⟨by rfl, rfl⟩) ?_ ?_
                 rotate_left
                 ·
                  simp only [Act.put, List.setIfInBounds_toArray, List.set_cons_zero, List.set_cons_succ, i64_w, i32_w]
                  rfl
                 refine pure_ (i := 33) (N := some 99) (v := undef) (a' := ?_) (ra_ [34, 10]) rfl rfl (any_of HT_.out (by kernel_rfl)) (fun _ _ _ h => h) (Or.inr ⟨by rfl, rfl⟩) ?_ ?_
                 rotate_left
                 ·
                  simp only [Act.put, List.setIfInBounds_toArray, List.set_cons_zero, List.set_cons_succ, i64_w, i32_w]
                  rfl
                 refine pure_ (i := 34) (N := some 100) (v := undef) (a' := ?_) (ra_ [35, 9]) rfl rfl (any_of HT_.out (by kernel_rfl)) (fun _ _ _ h => h) (Or.inr ⟨by rfl, rfl⟩) ?_ ?_
                 rotate_left
                 ·
                  simp only [Act.put, List.setIfInBounds_toArray, List.set_cons_zero, List.set_cons_succ, i64_w, i32_w]
                  rfl
                 refine pure_ (i := 35) (N := some 101) (v := undef) (a' := ?_) (ra_ [36, 8]) rfl rfl (any_of HT_.out (by kernel_rfl)) (fun _ _ _ h => h) (Or.inr ⟨by rfl, rfl⟩) ?_ ?_
                 rotate_left
                 ·
                  simp only [Act.put, List.setIfInBounds_toArray, List.set_cons_zero, List.set_cons_succ, i64_w, i32_w]
                  rfl
                 refine pure_ (i := 36) (N := some 102) (v := ?_) (a' := ?_) (ra_ [37, 7]) rfl rfl (any_of HT_.out (by kernel_rfl)) (fun _ _ _ h => h) (Or.inl ⟨by rfl, ?_⟩) ?_ ?_
                 rotate_left
                 ·
                  intro w'
                  go_simp
                  with_reducible rfl
                 rotate_left
                 ·
                  simp only [Act.put, List.setIfInBounds_toArray, List.set_cons_zero, List.set_cons_succ, i64_w, i32_w]
                  rfl
                 refine pure_ (i := 37) (N := some 103) (v := ?_) (a' := ?_) (ra_ [38, 6]) rfl rfl (any_of HT_.out (by kernel_rfl)) (fun _ _ _ h => h) (Or.inl ⟨by rfl, ?_⟩) ?_ ?_
                 rotate_left
                 ·
                  intro w'
                  go_simp
                  with_reducible rfl
                 rotate_left
                 ·
                  simp only [Act.put, List.setIfInBounds_toArray, List.set_cons_zero, List.set_cons_succ, i64_w, i32_w]
                  rfl
                 refine pure_ (i := 38) (N := some 104) (v := ?_) (a' := ?_) (ra_ [39, 5]) rfl rfl (any_of HT_.out (by kernel_rfl)) (fun _ _ _ h => h) (Or.inl ⟨by rfl, ?_⟩) ?_ ?_
                 rotate_left
                 ·
                  intro w'
                  go_simp
                  with_reducible rfl
                 rotate_left
                 ·
                  simp only [Act.put, List.setIfInBounds_toArray, List.set_cons_zero, List.set_cons_succ, i64_w, i32_w]
                  rfl
                 refine pure_ (i := 39) (N := some 105) (v := ?_) (a' := ?_) (ra_ [40, 4]) rfl rfl (any_of HT_.out (by kernel_rfl)) (fun _ _ _ h => h) (Or.inl ⟨by rfl, ?_⟩) ?_ ?_
                 rotate_left
                 ·
                  intro w'
                  go_simp
                  with_reducible rfl
                 rotate_left
                 ·
                  simp only [Act.put, List.setIfInBounds_toArray, List.set_cons_zero, List.set_cons_succ, i64_w, i32_w]
                  rfl
                 refine pure_ (i := 40) (N := some 106) (v := ?_) (a' := ?_) (ra_ [41, 3]) rfl rfl (any_of HT_.out (by kernel_rfl)) (fun _ _ _ h => h) (Or.inl ⟨by rfl, ?_⟩) ?_ ?_
                 rotate_left
                 ·
                  intro w'
                  go_simp
                  with_reducible rfl
                 rotate_left
                 ·
                  simp only [Act.put, List.setIfInBounds_toArray, List.set_cons_zero, List.set_cons_succ, i64_w, i32_w]
                  rfl
                 refine take_ (i := 41) (N := some 107) (v := ?_) (a' := ?_) (ra_ [42, 2]) rfl rfl (take_ofW HT_.out HW_.out (by kernel_rfl)) (fun _ _ _ h => h) (Or.inl ⟨by rfl, ?_⟩) hHeld ?_ ?_
                 rotate_left
                 ·
                  rintro w' ⟨s0, s1, s2, s3, s4, s5, s6⟩
                  go_simp
                  with_reducible rfl
                 rotate_left
                 ·
                  simp only [Act.put, List.setIfInBounds_toArray, List.set_cons_zero, List.set_cons_succ, i64_w, i32_w]
                  rfl
                 refine pure_ (i := 42) (N := some 108) (v := ?_) (a' := ?_) (ra_ [43, 1]) rfl rfl (any_of HT_.out (by kernel_rfl)) (fun _ _ _ h => h) (Or.inl ⟨by rfl, ?_⟩) ?_ ?_
                 rotate_left
                 ·
                  intro w'
                  go_simp
                  with_reducible rfl
                 rotate_left
                 ·
                  simp only [Act.put, List.setIfInBounds_toArray, List.set_cons_zero, List.set_cons_succ, i64_w, i32_w]
                  rfl
                 refine pure_ (i := 43) (N := some 109) (v := ?_) (a' := ?_) (ra_ [44]) rfl rfl (any_of HT_.out (by kernel_rfl)) (fun _ _ _ h => h) (Or.inl ⟨by rfl, ?_⟩) ?_ ?_
                 rotate_left
                 ·
                  intro w'
                  go_simp
                  with_reducible rfl
                 rotate_left
                 ·
                  simp only [Act.put, List.setIfInBounds_toArray, List.set_cons_zero, List.set_cons_succ, i64_w, i32_w]
                  rfl
                 refine done_ (done_of HT_.out (by kernel_rfl)) ?_
                 try go_wp2
                 go_meet
                 case rel => exact ⟨_, (decide (((rd_T68 t228 x61_2).f1.f0) < 1)), (by first | rfl | (simp; done) | (simp [*]; done) | (simp <;> grind)), H', ⟨by have := HK1.out; have := HK2.out; first | omega | exact Nat.le_refl _⟩, ⟨by (with_reducible repeat (first | apply Kd.R_alloc | apply Kd.R_drewN | apply Kd.R_drew)); exact HO_10.out⟩, ⟨by (with_reducible repeat (first | apply Kd.R_alloc | apply Kd.R_drewN | apply Kd.R_drew)); exact HO_12.out⟩, ⟨by (with_reducible repeat (first | apply Kd.R_alloc | apply Kd.R_drewN | apply Kd.R_drew)); exact HO_59.out⟩, ⟨by (with_reducible repeat (first | refine blk_drewN ?_ _ | refine blk_drew ?_ | refine blk_alloc ?_ _)); exact BK240.out⟩, ⟨by (with_reducible repeat (first | refine blk_drewN ?_ _ | refine blk_drew ?_ | refine blk_alloc ?_ _)); exact BK248.out⟩, ⟨by repeat (first | (with_reducible first | exact HB.out | apply below_alloc | apply pw_below_drewN | apply below_drew1 | refine below_set ?_ GE240.out | refine below_set ?_ GE248.out) | exact HB.out)⟩⟩
               ·
                rw [if_neg c49] at H
                have c49b0 : ((Int.tmod (wrap64 (((rd_T68 t228 x61_2).f0) - a1)) a3) == 0) = false := beq_eq_false_iff_ne.mpr c49
                have c49b1 : ((Int.tmod (wrap64 (((rd_T68 t228 x61_2).f0) - a1)) a3) != 0) = true := bne_iff_ne.mpr c49
                have H' := Aside0.mk H
                clear H
                try go_wp2
                refine start_ (n := 44) (S := fun w' => w'.cell? ⟨gb248, 0, none⟩ = some (.int .i64 ((rd_T68 t228 x61_2).f0)) ∧ w'.cell? ⟨gb248, 1, none⟩ = some (.int .i64 ((rd_T68 t228 x61_2).f1.f0)) ∧ w'.cell? ⟨gb248, 2, none⟩ = some (.int .i64 ((rd_T68 t228 x61_2).f1.f1)) ∧ w'.cell? ⟨gb248, 3, none⟩ = some (.int .i64 ((rd_T68 t228 x61_2).f1.f2)) ∧ w'.cell? ⟨gb248, 4, none⟩ = some (.int .i64 ((rd_T68 t228 x61_2).f1.f3)) ∧ w'.cell? ⟨gb248, 5, none⟩ = some (.int .i64 ((rd_T68 t228 x61_2).f1.f4)) ∧ w'.cell? ⟨gb248, 6, none⟩ = some (.int .i64 ((rd_T68 t228 x61_2).f1.f5))) (ds := []) (ra_ [0, 44]) (by kernel_rfl) rfl rfl ⟨(blk_cell BK248.out 0).trans rfl, (blk_cell BK248.out 1).trans rfl, (blk_cell BK248.out 2).trans rfl, (blk_cell BK248.out 3).trans rfl, (blk_cell BK248.out 4).trans rfl, (blk_cell BK248.out 5).trans rfl, (blk_cell BK248.out 6).trans rfl⟩ (fun hHeld => ?_); refine with_tabW marigraphlaw12_AggWhole.tab16 marigraphlaw12_AggWhole.bits16 (fun HT_ HW_ => ?_)
                generalize w40.drew = w62 at HO_10 HO_12 HO_59 BK240 BK248 HB hHeld ⊢
                refine pure_ (i := 0) (N := some 66) (v := ?_) (a' := ?_) (ra_ [1, 43]) rfl rfl (any_of HT_.out (by kernel_rfl)) (fun _ _ _ h => h) (Or.inl ⟨by rfl, ?_⟩) ?_ ?_
                rotate_left
                ·
                 intro w'
                 go_simp
                 with_reducible rfl
                rotate_left
                ·
                 simp only [Act.put, List.setIfInBounds_toArray, List.set_cons_zero, List.set_cons_succ, i64_w, i32_w]
                 rfl
                refine pure_ (i := 1) (N := some 67) (v := ?_) (a' := ?_) (ra_ [2, 42]) rfl rfl (any_of HT_.out (by kernel_rfl)) (fun _ _ _ h => h) (Or.inl ⟨by rfl, ?_⟩) ?_ ?_
                rotate_left
                ·
                 intro w'
                 go_simp
                 with_reducible rfl
                rotate_left
                ·
                 simp only [Act.put, List.setIfInBounds_toArray, List.set_cons_zero, List.set_cons_succ, i64_w, i32_w]
                 rfl
                refine pure_ (i := 2) (N := some 68) (v := ?_) (a' := ?_) (ra_ [3, 41]) rfl rfl (any_of HT_.out (by kernel_rfl)) (fun _ _ _ h => h) (Or.inl ⟨by rfl, ?_⟩) ?_ ?_
                rotate_left
                ·
                 intro w'
                 go_simp
                 with_reducible rfl
                rotate_left
                ·
                 simp only [Act.put, List.setIfInBounds_toArray, List.set_cons_zero, List.set_cons_succ, i64_w, i32_w]
                 rfl
                refine pure_ (i := 3) (N := some 69) (v := ?_) (a' := ?_) (ra_ [4, 40]) rfl rfl (any_of HT_.out (by kernel_rfl)) (fun _ _ _ h => h) (Or.inl ⟨by rfl, ?_⟩) ?_ ?_
                rotate_left
                ·
                 intro w'
                 go_simp
                 with_reducible rfl
                rotate_left
                ·
                 simp only [Act.put, List.setIfInBounds_toArray, List.set_cons_zero, List.set_cons_succ, i64_w, i32_w]
                 rfl
                refine pure_ (i := 5) (N := some 71) (v := ?_) (a' := ?_) (ra_ [4, 1, 1, 38]) rfl rfl (any_of HT_.out (by kernel_rfl)) (fun _ _ _ h => h) (Or.inl ⟨by rfl, ?_⟩) ?_ ?_
                rotate_left
                ·
                 intro w'
                 go_simp
                 with_reducible rfl
                rotate_left
                ·
                 simp only [Act.put, List.setIfInBounds_toArray, List.set_cons_zero, List.set_cons_succ, i64_w, i32_w]
                 rfl
                refine take_ (i := 4) (N := some 70) (v := ?_) (a' := ?_) (ra_ [6, 38]) rfl rfl (take_ofW HT_.out HW_.out (by kernel_rfl)) (fun _ _ _ h => h) (Or.inl ⟨by rfl, ?_⟩) hHeld ?_ ?_
                rotate_left
                ·
                 rintro w' ⟨s0, s1, s2, s3, s4, s5, s6⟩
                 go_simp
                 with_reducible rfl
                rotate_left
                ·
                 simp only [Act.put, List.setIfInBounds_toArray, List.set_cons_zero, List.set_cons_succ, i64_w, i32_w]
                 rfl
                refine pure_ (i := 6) (N := some 72) (v := ?_) (a' := ?_) (ra_ [7, 37]) rfl rfl (any_of HT_.out (by kernel_rfl)) (fun _ _ _ h => h) (Or.inl ⟨by rfl, ?_⟩) ?_ ?_
                rotate_left
                ·
                 intro w'
                 go_simp
                 with_reducible rfl
                rotate_left
                ·
                 simp only [Act.put, List.setIfInBounds_toArray, List.set_cons_zero, List.set_cons_succ, i64_w, i32_w]
                 rfl
                refine pure_ (i := 7) (N := some 73) (v := ?_) (a' := ?_) (ra_ [8, 36]) rfl rfl (any_of HT_.out (by kernel_rfl)) (fun _ _ _ h => h) (Or.inl ⟨by rfl, ?_⟩) ?_ ?_
                rotate_left
                ·
                 intro w'
                 go_simp
                 with_reducible rfl
                rotate_left
                ·
                 simp only [Act.put, List.setIfInBounds_toArray, List.set_cons_zero, List.set_cons_succ, i64_w, i32_w]
                 rfl
                refine pure_ (i := 8) (N := some 74) (v := ?_) (a' := ?_) (ra_ [9, 35]) rfl rfl (any_of HT_.out (by kernel_rfl)) (fun _ _ _ h => h) (Or.inl ⟨by rfl, ?_⟩) ?_ ?_
                rotate_left
                ·
                 intro w'
                 go_simp
                 with_reducible rfl
                rotate_left
                ·
                 simp only [Act.put, List.setIfInBounds_toArray, List.set_cons_zero, List.set_cons_succ, i64_w, i32_w]
                 rfl
                refine pure_ (i := 9) (N := some 75) (v := ?_) (a' := ?_) (ra_ [10, 34]) rfl rfl (any_of HT_.out (by kernel_rfl)) (fun _ _ _ h => h) (Or.inl ⟨by rfl, ?_⟩) ?_ ?_
                rotate_left
                ·
                 intro w'
                 go_simp
                 with_reducible rfl
                rotate_left
                ·
                 simp only [Act.put, List.setIfInBounds_toArray, List.set_cons_zero, List.set_cons_succ, i64_w, i32_w]
                 rfl
                refine pure_ (i := 11) (N := some 77) (v := ?_) (a' := ?_) (ra_ [10, 1, 1, 32]) rfl rfl (any_of HT_.out (by kernel_rfl)) (fun _ _ _ h => h) (Or.inl ⟨by rfl, ?_⟩) ?_ ?_
                rotate_left
                ·
                 intro w'
                 go_simp
                 with_reducible rfl
                rotate_left
                ·
                 simp only [Act.put, List.setIfInBounds_toArray, List.set_cons_zero, List.set_cons_succ, i64_w, i32_w]
                 rfl
                refine take_ (i := 10) (N := some 76) (v := ?_) (a' := ?_) (ra_ [12, 32]) rfl rfl (take_ofW HT_.out HW_.out (by kernel_rfl)) (fun _ _ _ h => h) (Or.inl ⟨by rfl, ?_⟩) hHeld ?_ ?_
                rotate_left
                ·
                 rintro w' ⟨s0, s1, s2, s3, s4, s5, s6⟩
                 go_simp
                 with_reducible rfl
                rotate_left
                ·
                 simp only [Act.put, List.setIfInBounds_toArray, List.set_cons_zero, List.set_cons_succ, i64_w, i32_w]
                 rfl
                refine pure_ (i := 12) (N := some 78) (v := ?_) (a' := ?_) (ra_ [13, 31]) rfl rfl (any_of HT_.out (by kernel_rfl)) (fun _ _ _ h => h) (Or.inl ⟨by rfl, ?_⟩) ?_ ?_
                rotate_left
                ·
                 intro w'
                 go_simp
                 with_reducible rfl
                rotate_left
                ·
                 simp only [Act.put, List.setIfInBounds_toArray, List.set_cons_zero, List.set_cons_succ, i64_w, i32_w]
                 rfl
                refine pure_ (i := 13) (N := some 79) (v := ?_) (a' := ?_) (ra_ [14, 30]) rfl rfl (any_of HT_.out (by kernel_rfl)) (fun _ _ _ h => h) (Or.inl ⟨by rfl, ?_⟩) ?_ ?_
                rotate_left
                ·
                 intro w'
                 go_simp
                 with_reducible rfl
                rotate_left
                ·
                 simp only [Act.put, List.setIfInBounds_toArray, List.set_cons_zero, List.set_cons_succ, i64_w, i32_w]
                 rfl
                refine pure_ (i := 14) (N := some 80) (v := ?_) (a' := ?_) (ra_ [15, 29]) rfl rfl (any_of HT_.out (by kernel_rfl)) (fun _ _ _ h => h) (Or.inl ⟨by rfl, ?_⟩) ?_ ?_
                rotate_left
                ·
                 intro w'
                 go_simp
                 with_reducible rfl
                rotate_left
                ·
                 simp only [Act.put, List.setIfInBounds_toArray, List.set_cons_zero, List.set_cons_succ, i64_w, i32_w]
                 rfl
                refine pure_ (i := 15) (N := some 81) (v := ?_) (a' := ?_) (ra_ [16, 28]) rfl rfl (any_of HT_.out (by kernel_rfl)) (fun _ _ _ h => h) (Or.inl ⟨by rfl, ?_⟩) ?_ ?_
                rotate_left
                ·
                 intro w'
                 go_simp
                 with_reducible rfl
                rotate_left
                ·
                 simp only [Act.put, List.setIfInBounds_toArray, List.set_cons_zero, List.set_cons_succ, i64_w, i32_w]
                 rfl
                refine pure_ (i := 17) (N := some 83) (v := ?_) (a' := ?_) (ra_ [16, 1, 1, 26]) rfl rfl (any_of HT_.out (by kernel_rfl)) (fun _ _ _ h => h) (Or.inl ⟨by rfl, ?_⟩) ?_ ?_
                rotate_left
                ·
                 intro w'
                 go_simp
                 with_reducible rfl
                rotate_left
                ·
                 simp only [Act.put, List.setIfInBounds_toArray, List.set_cons_zero, List.set_cons_succ, i64_w, i32_w]
                 rfl
                refine pure_ (i := 19) (N := some 85) (v := ?_) (a' := ?_) (ra_ [16, 1, 1, 1, 1, 24]) rfl rfl (any_of HT_.out (by kernel_rfl)) (fun _ _ _ h => h) (Or.inl ⟨by rfl, ?_⟩) ?_ ?_
                rotate_left
                ·
                 intro w'
                 go_simp
                 with_reducible rfl
                rotate_left
                ·
                 simp only [Act.put, List.setIfInBounds_toArray, List.set_cons_zero, List.set_cons_succ, i64_w, i32_w]
                 rfl
                refine take_ (i := 16) (N := some 82) (v := ?_) (a' := ?_) (ra_ [18, 1, 1, 24]) rfl rfl (take_ofW HT_.out HW_.out (by kernel_rfl)) (fun _ _ _ h => h) (Or.inl ⟨by rfl, ?_⟩) hHeld ?_ ?_
                rotate_left
                ·
                 rintro w' ⟨s0, s1, s2, s3, s4, s5, s6⟩
                 go_simp
                 with_reducible rfl
                rotate_left
                ·
                 simp only [Act.put, List.setIfInBounds_toArray, List.set_cons_zero, List.set_cons_succ, i64_w, i32_w]
                 rfl
                refine pure_ (i := 18) (N := some 84) (v := ?_) (a' := ?_) (ra_ [20, 24]) rfl rfl (any_of HT_.out (by kernel_rfl)) (fun _ _ _ h => h) (Or.inl ⟨by rfl, ?_⟩) ?_ ?_
                rotate_left
                ·
                 intro w'
                 go_simp
                 with_reducible rfl
                rotate_left
                ·
                 simp only [Act.put, List.setIfInBounds_toArray, List.set_cons_zero, List.set_cons_succ, i64_w, i32_w]
                 rfl
                refine pure_ (i := 20) (N := some 86) (v := ?_) (a' := ?_) (ra_ [21, 23]) rfl rfl (any_of HT_.out (by kernel_rfl)) (fun _ _ _ h => h) (Or.inl ⟨by rfl, ?_⟩) ?_ ?_
                rotate_left
                ·
                 intro w'
                 go_simp
                 with_reducible rfl
                rotate_left
                ·
                 simp only [Act.put, List.setIfInBounds_toArray, List.set_cons_zero, List.set_cons_succ, i64_w, i32_w]
                 rfl
                refine pure_ (i := 21) (N := some 87) (v := ?_) (a' := ?_) (ra_ [22, 22]) rfl rfl (any_of HT_.out (by kernel_rfl)) (fun _ _ _ h => h) (Or.inl ⟨by rfl, ?_⟩) ?_ ?_
                rotate_left
                ·
                 intro w'
                 go_simp
                 with_reducible rfl
                rotate_left
                ·
                 simp only [Act.put, List.setIfInBounds_toArray, List.set_cons_zero, List.set_cons_succ, i64_w, i32_w]
                 rfl
                refine pure_ (i := 22) (N := some 88) (v := ?_) (a' := ?_) (ra_ [23, 21]) rfl rfl (any_of HT_.out (by kernel_rfl)) (fun _ _ _ h => h) (Or.inl ⟨by rfl, ?_⟩) ?_ ?_
                rotate_left
                ·
                 intro w'
                 go_simp
                 with_reducible rfl
                rotate_left
                ·
                 simp only [Act.put, List.setIfInBounds_toArray, List.set_cons_zero, List.set_cons_succ, i64_w, i32_w]
                 rfl
                refine pure_ (i := 23) (N := some 89) (v := ?_) (a' := ?_) (ra_ [24, 20]) rfl rfl (any_of HT_.out (by kernel_rfl)) (fun _ _ _ h => h) (Or.inl ⟨by rfl, ?_⟩) ?_ ?_
                rotate_left
                ·
                 intro w'
                 go_simp
                 with_reducible rfl
                rotate_left
                ·
                 simp only [Act.put, List.setIfInBounds_toArray, List.set_cons_zero, List.set_cons_succ, i64_w, i32_w]
                 rfl
                refine pure_ (i := 24) (N := some 90) (v := undef) (a' := ?_) (ra_ [25, 19]) rfl rfl (any_of HT_.out (by kernel_rfl)) (fun _ _ _ h => h) (Or.inr ⟨by rfl, rfl⟩) ?_ ?_
                rotate_left
                ·
                 simp only [Act.put, List.setIfInBounds_toArray, List.set_cons_zero, List.set_cons_succ, i64_w, i32_w]
                 rfl
                refine pure_ (i := 25) (N := some 91) (v := undef) (a' := ?_) (ra_ [26, 18]) rfl rfl (any_of HT_.out (by kernel_rfl)) (fun _ _ _ h => h) (Or.inr ⟨by rfl, rfl⟩) ?_ ?_
                rotate_left
                ·
                 simp only [Act.put, List.setIfInBounds_toArray, List.set_cons_zero, List.set_cons_succ, i64_w, i32_w]
                 rfl
                refine pure_ (i := 26) (N := some 92) (v := undef) (a' := ?_) (ra_ [27, 17]) rfl rfl (any_of HT_.out (by kernel_rfl)) (fun _ _ _ h => h) (Or.inr ⟨by rfl, rfl⟩) ?_ ?_
                rotate_left
                ·
                 simp only [Act.put, List.setIfInBounds_toArray, List.set_cons_zero, List.set_cons_succ, i64_w, i32_w]
                 rfl
                refine pure_ (i := 27) (N := some 93) (v := undef) (a' := ?_) (ra_ [28, 16]) rfl rfl (any_of HT_.out (by kernel_rfl)) (fun _ _ _ h => h) (Or.inr ⟨by rfl, rfl⟩) ?_ ?_
                rotate_left
                ·
                 simp only [Act.put, List.setIfInBounds_toArray, List.set_cons_zero, List.set_cons_succ, i64_w, i32_w]
                 rfl
                refine pure_ (i := 28) (N := some 94) (v := undef) (a' := ?_) (ra_ [29, 15]) rfl rfl (any_of HT_.out (by kernel_rfl)) (fun _ _ _ h => h) (Or.inr ⟨by rfl, rfl⟩) ?_ ?_
                rotate_left
                ·
                 simp only [Act.put, List.setIfInBounds_toArray, List.set_cons_zero, List.set_cons_succ, i64_w, i32_w]
                 rfl
                refine pure_ (i := 29) (N := some 95) (v := undef) (a' := ?_) (ra_ [30, 14]) rfl rfl (any_of HT_.out (by kernel_rfl)) (fun _ _ _ h => h) (Or.inr ⟨by rfl, rfl⟩) ?_ ?_
                rotate_left
                ·
                 simp only [Act.put, List.setIfInBounds_toArray, List.set_cons_zero, List.set_cons_succ, i64_w, i32_w]
                 rfl
                refine pure_ (i := 30) (N := some 96) (v := undef) (a' := ?_) (ra_ [31, 13]) rfl rfl (any_of HT_.out (by kernel_rfl)) (fun _ _ _ h => h) (Or.inr ⟨by rfl, rfl⟩) ?_ ?_
                rotate_left
                ·
                 simp only [Act.put, List.setIfInBounds_toArray, List.set_cons_zero, List.set_cons_succ, i64_w, i32_w]
                 rfl
                refine pure_ (i := 31) (N := some 97) (v := undef) (a' := ?_) (ra_ [32, 12]) rfl rfl (any_of HT_.out (by kernel_rfl)) (fun _ _ _ h => h) (Or.inr ⟨by rfl, rfl⟩) ?_ ?_
                rotate_left
                ·
                 simp only [Act.put, List.setIfInBounds_toArray, List.set_cons_zero, List.set_cons_succ, i64_w, i32_w]
                 rfl
                refine pure_ (i := 32) (N := some 98) (v := undef) (a' := ?_) (ra_ [33, 11]) rfl rfl (any_of HT_.out (by kernel_rfl)) (fun _ _ _ h => h) (Or.inr ⟨by rfl, rfl⟩) ?_ ?_
                rotate_left
                ·
                 simp only [Act.put, List.setIfInBounds_toArray, List.set_cons_zero, List.set_cons_succ, i64_w, i32_w]
                 rfl
                refine pure_ (i := 33) (N := some 99) (v := undef) (a' := ?_) (ra_ [34, 10]) rfl rfl (any_of HT_.out (by kernel_rfl)) (fun _ _ _ h => h) (Or.inr ⟨by rfl, rfl⟩) ?_ ?_
                rotate_left
                ·
                 simp only [Act.put, List.setIfInBounds_toArray, List.set_cons_zero, List.set_cons_succ, i64_w, i32_w]
                 rfl
                refine pure_ (i := 34) (N := some 100) (v := undef) (a' := ?_) (ra_ [35, 9]) rfl rfl (any_of HT_.out (by kernel_rfl)) (fun _ _ _ h => h) (Or.inr ⟨by rfl, rfl⟩) ?_ ?_
                rotate_left
                ·
                 simp only [Act.put, List.setIfInBounds_toArray, List.set_cons_zero, List.set_cons_succ, i64_w, i32_w]
                 rfl
                refine pure_ (i := 35) (N := some 101) (v := undef) (a' := ?_) (ra_ [36, 8]) rfl rfl (any_of HT_.out (by kernel_rfl)) (fun _ _ _ h => h) (Or.inr ⟨by rfl, rfl⟩) ?_ ?_
                rotate_left
                ·
                 simp only [Act.put, List.setIfInBounds_toArray, List.set_cons_zero, List.set_cons_succ, i64_w, i32_w]
                 rfl
                refine pure_ (i := 36) (N := some 102) (v := undef) (a' := ?_) (ra_ [37, 7]) rfl rfl (any_of HT_.out (by kernel_rfl)) (fun _ _ _ h => h) (Or.inr ⟨by rfl, rfl⟩) ?_ ?_
                rotate_left
                ·
                 simp only [Act.put, List.setIfInBounds_toArray, List.set_cons_zero, List.set_cons_succ, i64_w, i32_w]
                 rfl
                refine pure_ (i := 37) (N := some 103) (v := ?_) (a' := ?_) (ra_ [38, 6]) rfl rfl (any_of HT_.out (by kernel_rfl)) (fun _ _ _ h => h) (Or.inl ⟨by rfl, ?_⟩) ?_ ?_
                rotate_left
                ·
                 intro w'
                 go_simp
                 with_reducible rfl
                rotate_left
                ·
                 simp only [Act.put, List.setIfInBounds_toArray, List.set_cons_zero, List.set_cons_succ, i64_w, i32_w]
                 rfl
                refine pure_ (i := 38) (N := some 104) (v := ?_) (a' := ?_) (ra_ [39, 5]) rfl rfl (any_of HT_.out (by kernel_rfl)) (fun _ _ _ h => h) (Or.inl ⟨by rfl, ?_⟩) ?_ ?_
                rotate_left
                ·
                 intro w'
                 go_simp
                 with_reducible rfl
                rotate_left
                ·
                 simp only [Act.put, List.setIfInBounds_toArray, List.set_cons_zero, List.set_cons_succ, i64_w, i32_w]
                 rfl
                refine pure_ (i := 39) (N := some 105) (v := undef) (a' := ?_) (ra_ [40, 4]) rfl rfl (any_of HT_.out (by kernel_rfl)) (fun _ _ _ h => h) (Or.inr ⟨by rfl, rfl⟩) ?_ ?_
                rotate_left
                ·
                 simp only [Act.put, List.setIfInBounds_toArray, List.set_cons_zero, List.set_cons_succ, i64_w, i32_w]
                 rfl
                refine pure_ (i := 40) (N := some 106) (v := undef) (a' := ?_) (ra_ [41, 3]) rfl rfl (any_of HT_.out (by kernel_rfl)) (fun _ _ _ h => h) (Or.inr ⟨by rfl, rfl⟩) ?_ ?_
                rotate_left
                ·
                 simp only [Act.put, List.setIfInBounds_toArray, List.set_cons_zero, List.set_cons_succ, i64_w, i32_w]
                 rfl
                refine pure_ (i := 41) (N := some 107) (v := undef) (a' := ?_) (ra_ [42, 2]) rfl rfl (any_of HT_.out (by kernel_rfl)) (fun _ _ _ h => h) (Or.inr ⟨by rfl, rfl⟩) ?_ ?_
                rotate_left
                ·
                 simp only [Act.put, List.setIfInBounds_toArray, List.set_cons_zero, List.set_cons_succ, i64_w, i32_w]
                 rfl
                refine pure_ (i := 42) (N := some 108) (v := undef) (a' := ?_) (ra_ [43, 1]) rfl rfl (any_of HT_.out (by kernel_rfl)) (fun _ _ _ h => h) (Or.inr ⟨by rfl, rfl⟩) ?_ ?_
                rotate_left
                ·
                 simp only [Act.put, List.setIfInBounds_toArray, List.set_cons_zero, List.set_cons_succ, i64_w, i32_w]
                 rfl
                refine pure_ (i := 43) (N := some 109) (v := ?_) (a' := ?_) (ra_ [44]) rfl rfl (any_of HT_.out (by kernel_rfl)) (fun _ _ _ h => h) (Or.inl ⟨by rfl, ?_⟩) ?_ ?_
                rotate_left
                ·
                 intro w'
                 go_simp
                 with_reducible rfl
                rotate_left
                ·
                 simp only [Act.put, List.setIfInBounds_toArray, List.set_cons_zero, List.set_cons_succ, i64_w, i32_w]
                 rfl
                refine done_ (done_of HT_.out (by kernel_rfl)) ?_
                try go_wp2
                go_meet
                case rel => exact ⟨_, (true), (by first | rfl | (simp; done) | (simp [*]; done) | (simp <;> grind)), H', ⟨by have := HK1.out; have := HK2.out; first | omega | exact Nat.le_refl _⟩, ⟨by (with_reducible repeat (first | apply Kd.R_alloc | apply Kd.R_drewN | apply Kd.R_drew)); exact HO_10.out⟩, ⟨by (with_reducible repeat (first | apply Kd.R_alloc | apply Kd.R_drewN | apply Kd.R_drew)); exact HO_12.out⟩, ⟨by (with_reducible repeat (first | apply Kd.R_alloc | apply Kd.R_drewN | apply Kd.R_drew)); exact HO_59.out⟩, ⟨by (with_reducible repeat (first | refine blk_drewN ?_ _ | refine blk_drew ?_ | refine blk_alloc ?_ _)); exact BK240.out⟩, ⟨by (with_reducible repeat (first | refine blk_drewN ?_ _ | refine blk_drew ?_ | refine blk_alloc ?_ _)); exact BK248.out⟩, ⟨by repeat (first | (with_reducible first | exact HB.out | apply below_alloc | apply pw_below_drewN | apply below_drew1 | refine below_set ?_ GE240.out | refine below_set ?_ GE248.out) | exact HB.out)⟩⟩
          case rest =>
           clear HC35
           try clear p2
           try clear c4
           try clear p6
           try clear c49
           try clear c49b0
           try clear c49b1
           obtain ⟨kq, x109_34, rfl, HA, HJ34, HO_10, HO_12, HO_59, BK240, BK248, HB⟩ := hcut
           cases kq with
           | zero => exact absurd HA.out (by simp [marigraphlaw12_AggWhole.j2])
           | succ kj34 =>
            have H := HA.out
            clear HA
            simp only [marigraphlaw12_AggWhole.j2] at H
            by_cases c63 : x109_34 = true
            ·
             subst c63
             have H1 : (some false) = some r := by rw [if_pos rfl] at H; exact H
             clear H
             have H := H1
             clear H1
             obtain rfl := Option.some.inj H
             go_wp2
             go_ret
             exact ⟨by first | rfl | (simp [errW_none, errW_some] <;> rfl) | (simp [*, errW_none, errW_some] <;> rfl), by repeat (first | (with_reducible first | exact HB.out | apply below_alloc | apply pw_below_drewN | apply below_drew1 | refine below_set ?_ GE240.out | refine below_set ?_ GE248.out) | exact HB.out)⟩
            ·
             replace c63 := Bool.eq_false_iff.mpr c63
             subst c63
             have H1 : ((agg_Join.f x241000_2 x241001_2 x241002_2 x241003_2 x241004_2 x241005_2 ((rd_T68 t228 x61_2).f1.f0) ((rd_T68 t228 x61_2).f1.f1) ((rd_T68 t228 x61_2).f1.f2) ((rd_T68 t228 x61_2).f1.f3) ((rd_T68 t228 x61_2).f1.f4) ((rd_T68 t228 x61_2).f1.f5)).bind fun bt250 => (marigraphlaw12_AggWhole.l1 kj34 a1 a2 a3 t224 t228 x12_1 t228 (t228.length : Int) (wrap64 (x61_2 + 1)) bt250.1 bt250.2.1 bt250.2.2.1 bt250.2.2.2.1 bt250.2.2.2.2.1 bt250.2.2.2.2.2)) = some r := by rw [if_neg (show ¬ (false = true) by decide)] at H; exact H
             clear H
             have H := H1
             clear H1
             replace H := Option.bind_eq_some_iff.mp H
             obtain ⟨⟨t250, t251, t252, t253, t254, t255⟩, A640, H⟩ := H
             replace H : (marigraphlaw12_AggWhole.l1 kj34 a1 a2 a3 t224 t228 x12_1 t228 (t228.length : Int) (wrap64 (x61_2 + 1)) t250 t251 t252 t253 t254 t255) = some r := H
             have A64 := Aside0.mk A640
             clear A640
             have H' := Aside0.mk H
             clear H
             have hnb65 := NB240_248.out
             have hnc65 := NB248_240.out
             have hcz66_0 : wc.cell? ⟨gb240, 0, none⟩ = some (.int .i64 x241000_2) := (blk_cell BK240.out 0).trans rfl
             have hcz66_1 : wc.cell? ⟨gb240, 1, none⟩ = some (.int .i64 x241001_2) := (blk_cell BK240.out 1).trans rfl
             have hcz66_2 : wc.cell? ⟨gb240, 2, none⟩ = some (.int .i64 x241002_2) := (blk_cell BK240.out 2).trans rfl
             have hcz66_3 : wc.cell? ⟨gb240, 3, none⟩ = some (.int .i64 x241003_2) := (blk_cell BK240.out 3).trans rfl
             have hcz66_4 : wc.cell? ⟨gb240, 4, none⟩ = some (.int .i64 x241004_2) := (blk_cell BK240.out 4).trans rfl
             have hcz66_5 : wc.cell? ⟨gb240, 5, none⟩ = some (.int .i64 x241005_2) := (blk_cell BK240.out 5).trans rfl
             have hfz66_0 := blk_frozen BK240.out 0
             have hfz66_1 := blk_frozen BK240.out 1
             have hfz66_2 := blk_frozen BK240.out 2
             have hfz66_3 := blk_frozen BK240.out 3
             have hfz66_4 := blk_frozen BK240.out 4
             have hfz66_5 := blk_frozen BK240.out 5
             have hcz67_0 : wc.cell? ⟨gb248, 0, none⟩ = some (.int .i64 ((rd_T68 t228 x61_2).f0)) := (blk_cell BK248.out 0).trans rfl
             have hcz67_1 : wc.cell? ⟨gb248, 1, none⟩ = some (.int .i64 ((rd_T68 t228 x61_2).f1.f0)) := (blk_cell BK248.out 1).trans rfl
             have hcz67_2 : wc.cell? ⟨gb248, 2, none⟩ = some (.int .i64 ((rd_T68 t228 x61_2).f1.f1)) := (blk_cell BK248.out 2).trans rfl
             have hcz67_3 : wc.cell? ⟨gb248, 3, none⟩ = some (.int .i64 ((rd_T68 t228 x61_2).f1.f2)) := (blk_cell BK248.out 3).trans rfl
             have hcz67_4 : wc.cell? ⟨gb248, 4, none⟩ = some (.int .i64 ((rd_T68 t228 x61_2).f1.f3)) := (blk_cell BK248.out 4).trans rfl
             have hcz67_5 : wc.cell? ⟨gb248, 5, none⟩ = some (.int .i64 ((rd_T68 t228 x61_2).f1.f4)) := (blk_cell BK248.out 5).trans rfl
             have hcz67_6 : wc.cell? ⟨gb248, 6, none⟩ = some (.int .i64 ((rd_T68 t228 x61_2).f1.f5)) := (blk_cell BK248.out 6).trans rfl
             have hfz67_0 := blk_frozen BK248.out 0
             have hfz67_1 := blk_frozen BK248.out 1
             have hfz67_2 := blk_frozen BK248.out 2
             have hfz67_3 := blk_frozen BK248.out 3
             have hfz67_4 := blk_frozen BK248.out 4
             have hfz67_5 := blk_frozen BK248.out 5
             have hfz67_6 := blk_frozen BK248.out 6
             go_wp2_with (first | ((with_reducible refine gate_callee (f := 32) rfl ?_); refine goesL_ (some 113) rfl rfl Try.func32 (by kernel_rfl) rfl #[.agg #[.int .i64 x241000_2, .int .i64 x241001_2, .int .i64 x241002_2, .int .i64 x241003_2, .int .i64 x241004_2, .int .i64 x241005_2], .agg #[.int .i64 ((rd_T68 t228 x61_2).f1.f0), .int .i64 ((rd_T68 t228 x61_2).f1.f1), .int .i64 ((rd_T68 t228 x61_2).f1.f2), .int .i64 ((rd_T68 t228 x61_2).f1.f3), .int .i64 ((rd_T68 t228 x61_2).f1.f4), .int .i64 ((rd_T68 t228 x61_2).f1.f5)]] rfl (by (try simp only [List.map_toArray, List.map_cons, List.map_nil]); first | done | rfl | (simp only [List.length_drop, List.length_take]; rfl)) ?_; (with_reducible refine (agg_Join.calls x241000_2 x241001_2 x241002_2 x241003_2 x241004_2 x241005_2 ((rd_T68 t228 x61_2).f1.f0) ((rd_T68 t228 x61_2).f1.f1) ((rd_T68 t228 x61_2).f1.f2) ((rd_T68 t228 x61_2).f1.f3) ((rd_T68 t228 x61_2).f1.f4) ((rd_T68 t228 x61_2).f1.f5) t250 t251 t252 t253 t254 t255 _ A64.out).mono ?_); rintro e w68 ⟨rfl, hb⟩; refine ⟨_, rfl, ?_⟩; have n0_ := Aside0.mk (Kd.R_below (by (with_reducible repeat (first | apply Kd.R_alloc | apply Kd.R_drewN | apply Kd.R_drew)); exact HO_10.out) hb); have n1_ := Aside0.mk (Kd.R_below (by (with_reducible repeat (first | apply Kd.R_alloc | apply Kd.R_drewN | apply Kd.R_drew)); exact HO_12.out) hb); have n2_ := Aside0.mk (Kd.R_below (by (with_reducible repeat (first | apply Kd.R_alloc | apply Kd.R_drewN | apply Kd.R_drew)); exact HO_59.out) hb); have n3_ := Aside0.mk (blk_below (g := gb240) (o := .cells #[.int .i64 x241000_2, .int .i64 x241001_2, .int .i64 x241002_2, .int .i64 x241003_2, .int .i64 x241004_2, .int .i64 x241005_2] 50 (0, 0)) (by (with_reducible repeat (first | refine blk_drewN ?_ _ | refine blk_drew ?_ | refine blk_alloc ?_ _)); exact BK240.out) hb); have n4_ := Aside0.mk (blk_below (g := gb248) (o := .cells #[.int .i64 ((rd_T68 t228 x61_2).f0), .int .i64 ((rd_T68 t228 x61_2).f1.f0), .int .i64 ((rd_T68 t228 x61_2).f1.f1), .int .i64 ((rd_T68 t228 x61_2).f1.f2), .int .i64 ((rd_T68 t228 x61_2).f1.f3), .int .i64 ((rd_T68 t228 x61_2).f1.f4), .int .i64 ((rd_T68 t228 x61_2).f1.f5)] 68 (0, 0)) (by (with_reducible repeat (first | refine blk_drewN ?_ _ | refine blk_drew ?_ | refine blk_alloc ?_ _)); exact BK248.out) hb); have n5_ := Aside0.mk (below_step (by repeat (first | (with_reducible first | exact HB.out | apply below_alloc | apply pw_below_drewN | apply below_drew1 | refine below_set ?_ GE240.out | refine below_set ?_ GE248.out) | exact HB.out)) hb); clear HO_10; clear HO_12; clear HO_59; clear BK240; clear BK248; clear HB; have HO_10 := n0_; have HO_12 := n1_; have HO_59 := n2_; have BK240 := n3_; have BK248 := n4_; have HB := n5_; clear n0_ n1_ n2_ n3_ n4_ n5_; (try clear hb); (try clear hb2); (try clear hk); (try clear hi); have hcz69_0 : w68.cell? ⟨gb240, 0, none⟩ = some (.int .i64 x241000_2) := (blk_cell BK240.out 0).trans rfl; have hcz69_1 : w68.cell? ⟨gb240, 1, none⟩ = some (.int .i64 x241001_2) := (blk_cell BK240.out 1).trans rfl; have hcz69_2 : w68.cell? ⟨gb240, 2, none⟩ = some (.int .i64 x241002_2) := (blk_cell BK240.out 2).trans rfl; have hcz69_3 : w68.cell? ⟨gb240, 3, none⟩ = some (.int .i64 x241003_2) := (blk_cell BK240.out 3).trans rfl; have hcz69_4 : w68.cell? ⟨gb240, 4, none⟩ = some (.int .i64 x241004_2) := (blk_cell BK240.out 4).trans rfl; have hcz69_5 : w68.cell? ⟨gb240, 5, none⟩ = some (.int .i64 x241005_2) := (blk_cell BK240.out 5).trans rfl; have hfz69_0 := blk_frozen BK240.out 0; have hfz69_1 := blk_frozen BK240.out 1; have hfz69_2 := blk_frozen BK240.out 2; have hfz69_3 := blk_frozen BK240.out 3; have hfz69_4 := blk_frozen BK240.out 4; have hfz69_5 := blk_frozen BK240.out 5))
             go_roundg kj34
             case measure => have := HK1.out; have := HK2.out; have := HJ34.out; omega
             case rel => exact ⟨(wrap64 (x61_2 + 1)), (t250), (t251), (t252), (t253), (t254), (t255), (by first | rfl | (simp; done) | (simp [*]; done) | (simp <;> grind)), H', ⟨by have := HK1.out; have := HK2.out; have := HJ34.out; omega⟩, ⟨by (with_reducible repeat (first | apply Kd.R_alloc | apply Kd.R_drewN | apply Kd.R_drew)); exact Kd.R_mono (Kd.R_far (p := ⟨gb240, 5, none⟩) (Kd.R_far (p := ⟨gb240, 4, none⟩) (Kd.R_far (p := ⟨gb240, 3, none⟩) (Kd.R_far (p := ⟨gb240, 2, none⟩) (Kd.R_far (p := ⟨gb240, 1, none⟩) (Kd.R_far (p := ⟨gb240, 0, none⟩) (Kd.R_types HO_10.out BK240.out (by decide)) (fun _ hk => hk.2) (.int .i64 t250)) (fun _ hk => hk.2) (.int .i64 t251)) (fun _ hk => hk.2) (.int .i64 t252)) (fun _ hk => hk.2) (.int .i64 t253)) (fun _ hk => hk.2) (.int .i64 t254)) (fun _ hk => hk.2) (.int .i64 t255)) (fun _ hk => trivial)⟩, ⟨by (with_reducible repeat (first | apply Kd.R_alloc | apply Kd.R_drewN | apply Kd.R_drew)); exact Kd.R_mono (Kd.R_far (p := ⟨gb240, 5, none⟩) (Kd.R_far (p := ⟨gb240, 4, none⟩) (Kd.R_far (p := ⟨gb240, 3, none⟩) (Kd.R_far (p := ⟨gb240, 2, none⟩) (Kd.R_far (p := ⟨gb240, 1, none⟩) (Kd.R_far (p := ⟨gb240, 0, none⟩) (Kd.R_types HO_12.out BK240.out (by decide)) (fun _ hk => hk.2) (.int .i64 t250)) (fun _ hk => hk.2) (.int .i64 t251)) (fun _ hk => hk.2) (.int .i64 t252)) (fun _ hk => hk.2) (.int .i64 t253)) (fun _ hk => hk.2) (.int .i64 t254)) (fun _ hk => hk.2) (.int .i64 t255)) (fun _ hk => trivial)⟩, ⟨by (with_reducible repeat (first | apply Kd.R_alloc | apply Kd.R_drewN | apply Kd.R_drew)); exact Kd.R_mono (Kd.R_far (p := ⟨gb240, 5, none⟩) (Kd.R_far (p := ⟨gb240, 4, none⟩) (Kd.R_far (p := ⟨gb240, 3, none⟩) (Kd.R_far (p := ⟨gb240, 2, none⟩) (Kd.R_far (p := ⟨gb240, 1, none⟩) (Kd.R_far (p := ⟨gb240, 0, none⟩) (Kd.R_types HO_59.out BK240.out (by decide)) (fun _ hk => hk.2) (.int .i64 t250)) (fun _ hk => hk.2) (.int .i64 t251)) (fun _ hk => hk.2) (.int .i64 t252)) (fun _ hk => hk.2) (.int .i64 t253)) (fun _ hk => hk.2) (.int .i64 t254)) (fun _ hk => hk.2) (.int .i64 t255)) (fun _ hk => trivial)⟩, ⟨by (with_reducible repeat (first | refine blk_drewN ?_ _ | refine blk_drew ?_ | refine blk_alloc ?_ _)); refine blk_put (cs := #[.int .i64 t250, .int .i64 t251, .int .i64 t252, .int .i64 t253, .int .i64 t254, .int .i64 x241005_2]) ?_ 5 _ rfl; (with_reducible repeat (first | refine blk_drewN ?_ _ | refine blk_drew ?_ | refine blk_alloc ?_ _)); refine blk_put (cs := #[.int .i64 t250, .int .i64 t251, .int .i64 t252, .int .i64 t253, .int .i64 x241004_2, .int .i64 x241005_2]) ?_ 4 _ rfl; (with_reducible repeat (first | refine blk_drewN ?_ _ | refine blk_drew ?_ | refine blk_alloc ?_ _)); refine blk_put (cs := #[.int .i64 t250, .int .i64 t251, .int .i64 t252, .int .i64 x241003_2, .int .i64 x241004_2, .int .i64 x241005_2]) ?_ 3 _ rfl; (with_reducible repeat (first | refine blk_drewN ?_ _ | refine blk_drew ?_ | refine blk_alloc ?_ _)); refine blk_put (cs := #[.int .i64 t250, .int .i64 t251, .int .i64 x241002_2, .int .i64 x241003_2, .int .i64 x241004_2, .int .i64 x241005_2]) ?_ 2 _ rfl; (with_reducible repeat (first | refine blk_drewN ?_ _ | refine blk_drew ?_ | refine blk_alloc ?_ _)); refine blk_put (cs := #[.int .i64 t250, .int .i64 x241001_2, .int .i64 x241002_2, .int .i64 x241003_2, .int .i64 x241004_2, .int .i64 x241005_2]) ?_ 1 _ rfl; (with_reducible repeat (first | refine blk_drewN ?_ _ | refine blk_drew ?_ | refine blk_alloc ?_ _)); refine blk_put (cs := #[.int .i64 x241000_2, .int .i64 x241001_2, .int .i64 x241002_2, .int .i64 x241003_2, .int .i64 x241004_2, .int .i64 x241005_2]) ?_ 0 _ rfl; (with_reducible repeat (first | refine blk_drewN ?_ _ | refine blk_drew ?_ | refine blk_alloc ?_ _)); exact BK240.out⟩, ⟨by repeat (first | (with_reducible first | exact HB.out | apply below_alloc | apply pw_below_drewN | apply below_drew1 | refine below_set ?_ GE240.out | refine below_set ?_ GE248.out) | exact HB.out)⟩⟩
         ·
          rw [if_neg c34] at H
          exact absurd H (by simp)
        ·
         rw [if_neg c33] at H
         exact absurd H (by simp)
       ·
        rw [if_neg c32] at H
        have c32b0 : decide (x61_2 < (t228.length : Int)) = false := decide_eq_false c32
        clear c32
        have n0_ := Aside0.mk (Kd.R_drew HO_10.out)
        have n1_ := Aside0.mk (Kd.R_drew HO_12.out)
        have n2_ := Aside0.mk (Kd.R_drew HO_59.out)
        have n3_ := Aside0.mk (blk_drew BK240.out)
        have n4_ := Aside0.mk (below_drew1 HB.out)
        clear HO_10
        clear HO_12
        clear HO_59
        clear BK240
        clear HB
        have HO_10 := n0_
        have HO_12 := n1_
        have HO_59 := n2_
        have BK240 := n3_
        have HB := n4_
        clear n0_ n1_ n2_ n3_ n4_
        by_cases c70 : t224 = true
        ·
         subst c70
         have H1 : (if (t228.length : Int) ≤ 200 then ((agg_Of.f k2 x12_1).bind fun bt241 => (some (x241000_2 == bt241.1 && (x241001_2 == bt241.2.1 && (x241002_2 == bt241.2.2.1 && (x241003_2 == bt241.2.2.2.1 && (x241004_2 == bt241.2.2.2.2.1 && (x241005_2 == bt241.2.2.2.2.2)))))))) else (some false)) = some r := by rw [if_pos rfl] at H; exact H
         clear H
         have H := H1
         clear H1
         by_cases c71 : (t228.length : Int) ≤ 200
         ·
          rw [if_pos c71] at H
          have c71b0 : decide ((t228.length : Int) ≤ 200) = true := decide_eq_true c71
          have c71b1 : decide (t228.length ≤ 200) = true := decide_eq_true (by omega)
          clear c71
          replace H := Option.bind_eq_some_iff.mp H
          obtain ⟨⟨t241, t242, t243, t244, t245, t246⟩, A720, H⟩ := H
          replace H : (some (x241000_2 == t241 && (x241001_2 == t242 && (x241002_2 == t243 && (x241003_2 == t244 && (x241004_2 == t245 && (x241005_2 == t246))))))) = some r := H
          have A72 := Aside0.mk A720
          clear A720
          obtain rfl := Option.some.inj H
          try go_wp2
          obtain ⟨Ao74, co74, eo74⟩ := Kd.R_slice HO_12.out
          (first | subst eo74 | (injection eo74 with f1_ f2_ f3_; have f4_ := f1_.symm; have f5_ := f3_.symm; clear f1_ f2_ f3_; subst f4_; subst f5_))
          refine start_ (n := 13) (S := fun w' => w'.cell? ⟨gb240, 0, none⟩ = some (.int .i64 x241000_2) ∧ w'.cell? ⟨gb240, 1, none⟩ = some (.int .i64 x241001_2) ∧ w'.cell? ⟨gb240, 2, none⟩ = some (.int .i64 x241002_2) ∧ w'.cell? ⟨gb240, 3, none⟩ = some (.int .i64 x241003_2) ∧ w'.cell? ⟨gb240, 4, none⟩ = some (.int .i64 x241004_2) ∧ w'.cell? ⟨gb240, 5, none⟩ = some (.int .i64 x241005_2)) (ds := []) (ra_ [0, 13]) (by kernel_rfl) rfl rfl ⟨(blk_cell BK240.out 0).trans rfl, (blk_cell BK240.out 1).trans rfl, (blk_cell BK240.out 2).trans rfl, (blk_cell BK240.out 3).trans rfl, (blk_cell BK240.out 4).trans rfl, (blk_cell BK240.out 5).trans rfl⟩ (fun hHeld => ?_); refine with_tabW marigraphlaw12_AggWhole.tab20 marigraphlaw12_AggWhole.bits20 (fun HT_ HW_ => ?_)
          generalize wr.drew = w73 at HO_10 HO_12 HO_59 BK240 HB hHeld ⊢
          refine pure_ (i := 0) (N := some 115) (v := ?_) (a' := ?_) (ra_ [1, 12]) rfl rfl (any_of HT_.out (by kernel_rfl)) (fun _ _ _ h => h) (Or.inl ⟨by rfl, ?_⟩) ?_ ?_
          rotate_left
          ·
           intro w'
           go_simp
           with_reducible rfl
          rotate_left
          ·
           simp only [Act.put, List.setIfInBounds_toArray, List.set_cons_zero, List.set_cons_succ, i64_w, i32_w]
           rfl
          refine pure_ (i := 1) (N := some 116) (v := ?_) (a' := ?_) (ra_ [2, 11]) rfl rfl (any_of HT_.out (by kernel_rfl)) (fun _ _ _ h => h) (Or.inl ⟨by rfl, ?_⟩) ?_ ?_
          rotate_left
          ·
           intro w'
           go_simp
           with_reducible rfl
          rotate_left
          ·
           simp only [Act.put, List.setIfInBounds_toArray, List.set_cons_zero, List.set_cons_succ, i64_w, i32_w]
           rfl
          refine pure_ (i := 2) (N := some 117) (v := ?_) (a' := ?_) (ra_ [3, 10]) rfl rfl (any_of HT_.out (by kernel_rfl)) (fun _ _ _ h => h) (Or.inl ⟨by rfl, ?_⟩) ?_ ?_
          rotate_left
          ·
           intro w'
           go_simp
           with_reducible rfl
          rotate_left
          ·
           simp only [Act.put, List.setIfInBounds_toArray, List.set_cons_zero, List.set_cons_succ, i64_w, i32_w]
           rfl
          refine pure_ (i := 3) (N := some 118) (v := ?_) (a' := ?_) (ra_ [4, 9]) rfl rfl (any_of HT_.out (by kernel_rfl)) (fun _ _ _ h => h) (Or.inl ⟨by rfl, ?_⟩) ?_ ?_
          rotate_left
          ·
           intro w'
           go_simp
           with_reducible rfl
          rotate_left
          ·
           simp only [Act.put, List.setIfInBounds_toArray, List.set_cons_zero, List.set_cons_succ, i64_w, i32_w]
           rfl
          refine pure_ (i := 4) (N := some 119) (v := ?_) (a' := ?_) (ra_ [5, 8]) rfl rfl (any_of HT_.out (by kernel_rfl)) (fun _ _ _ h => h) (Or.inl ⟨by rfl, ?_⟩) ?_ ?_
          rotate_left
          ·
           intro w'
           go_simp
           with_reducible rfl
          rotate_left
          ·
           simp only [Act.put, List.setIfInBounds_toArray, List.set_cons_zero, List.set_cons_succ, i64_w, i32_w]
           rfl
          refine pure_ (i := 5) (N := some 120) (v := ?_) (a' := ?_) (ra_ [6, 7]) rfl rfl (any_of HT_.out (by kernel_rfl)) (fun _ _ _ h => h) (Or.inl ⟨by rfl, ?_⟩) ?_ ?_
          rotate_left
          ·
           intro w'
           go_simp
           with_reducible rfl
          rotate_left
          ·
           simp only [Act.put, List.setIfInBounds_toArray, List.set_cons_zero, List.set_cons_succ, i64_w, i32_w]
           rfl
          refine pure_ (i := 6) (N := some 121) (v := ?_) (a' := ?_) (ra_ [7, 6]) rfl rfl (any_of HT_.out (by kernel_rfl)) (fun _ _ _ h => h) (Or.inl ⟨by rfl, ?_⟩) ?_ ?_
          rotate_left
          ·
           intro w'
           go_simp
           with_reducible rfl
          rotate_left
          ·
           simp only [Act.put, List.setIfInBounds_toArray, List.set_cons_zero, List.set_cons_succ, i64_w, i32_w]
           rfl
          refine pure_ (i := 8) (N := some 123) (v := ?_) (a' := ?_) (ra_ [7, 1, 1, 4]) rfl rfl (any_of HT_.out (by kernel_rfl)) (fun _ _ _ h => h) (Or.inl ⟨by rfl, ?_⟩) ?_ ?_
          rotate_left
          ·
           intro w'
           go_simp
           with_reducible rfl
          rotate_left
          ·
           simp only [Act.put, List.setIfInBounds_toArray, List.set_cons_zero, List.set_cons_succ, i64_w, i32_w]
           rfl
          refine take_ (i := 7) (N := some 122) (v := ?_) (a' := ?_) (ra_ [9, 4]) rfl rfl (take_ofW HT_.out HW_.out (by kernel_rfl)) (fun _ _ _ h => h) (Or.inl ⟨by rfl, ?_⟩) hHeld ?_ ?_
          rotate_left
          ·
           rintro w' ⟨s0, s1, s2, s3, s4, s5⟩
           go_simp
           with_reducible rfl
          rotate_left
          ·
           simp only [Act.put, List.setIfInBounds_toArray, List.set_cons_zero, List.set_cons_succ, i64_w, i32_w]
           rfl
          refine one_ (i := 9) (N := some 124) (ra_ [10, 3]) rfl rfl (one_of HT_.out (by kernel_rfl)) (by decide) (fun K hK => ?_)
          refine goes_ Try.func29 (by kernel_rfl) rfl #[.slice Ao74 x12_1.length co74] (by rfl) rfl rfl (by (try simp only [List.map_toArray, List.map_cons, List.map_nil]); first | done | rfl | (simp only [List.length_drop, List.length_take]; rfl)) ?_
          with_reducible refine (agg_Of.calls k2 _ _ x12_1 t241 t242 t243 t244 t245 t246 _ ?side1 ?side2 A72.out).mono ?_
          (case side1 => repeat (first | exact (Kd.R_reads' HO_12.out).2.2 | (with_reducible refine Kd.C_alloc ?_ _) | (with_reducible refine Kd.C_drewN ?_ _) | (with_reducible refine Kd.C_drew ?_)))
          (case side2 => exact (Kd.R_reads' HO_12.out).2.1)
          rintro e w75 ⟨rfl, hb⟩
          refine ⟨_, rfl, ?_⟩
          have n0_ := Aside0.mk (Kd.R_below (by (with_reducible repeat (first | apply Kd.R_alloc | apply Kd.R_drewN | apply Kd.R_drew)); exact HO_10.out) hb)
          have n1_ := Aside0.mk (Kd.R_below (by (with_reducible repeat (first | apply Kd.R_alloc | apply Kd.R_drewN | apply Kd.R_drew)); exact HO_12.out) hb)
          have n2_ := Aside0.mk (Kd.R_below (by (with_reducible repeat (first | apply Kd.R_alloc | apply Kd.R_drewN | apply Kd.R_drew)); exact HO_59.out) hb)
          have n3_ := Aside0.mk (blk_below (g := gb240) (o := .cells #[.int .i64 x241000_2, .int .i64 x241001_2, .int .i64 x241002_2, .int .i64 x241003_2, .int .i64 x241004_2, .int .i64 x241005_2] 50 (0, 0)) (by (with_reducible repeat (first | refine blk_drewN ?_ _ | refine blk_drew ?_ | refine blk_alloc ?_ _)); exact BK240.out) hb)
          have n4_ := Aside0.mk (below_step (by repeat (first | (with_reducible first | exact HB.out | apply below_alloc | apply pw_below_drewN | apply below_drew1 | refine below_set ?_ GE240.out) | exact HB.out)) hb)
          clear HO_10
          clear HO_12
          clear HO_59
          clear BK240
          clear HB
          have HO_10 := n0_
          have HO_12 := n1_
          have HO_59 := n2_
          have BK240 := n3_
          have HB := n4_
          clear n0_ n1_ n2_ n3_ n4_
          (try clear hb)
          (try clear hb2)
          (try clear hk)
          (try clear hi)
          refine hK.out _ _ ⟨(blk_cell BK240.out 0).trans rfl, (blk_cell BK240.out 1).trans rfl, (blk_cell BK240.out 2).trans rfl, (blk_cell BK240.out 3).trans rfl, (blk_cell BK240.out 4).trans rfl, (blk_cell BK240.out 5).trans rfl⟩ (fun hHeld => ?_)
          clear hK K
          refine norm_ (a' := ?_) ?_ ?_
          rotate_left
          ·
           show Act.put _ (some 124) _ = _
           simp only [Act.put, List.setIfInBounds_toArray, List.set_cons_zero, List.set_cons_succ, i64_w, i32_w]
           rfl
          refine pure_ (i := 10) (N := some 125) (v := ?_) (a' := ?_) (ra_ [11, 2]) rfl rfl (any_of HT_.out (by kernel_rfl)) (fun _ _ _ h => h) (Or.inl ⟨by rfl, ?_⟩) ?_ ?_
          rotate_left
          ·
           intro w'
           go_simp
           with_reducible rfl
          rotate_left
          ·
           simp only [Act.put, List.setIfInBounds_toArray, List.set_cons_zero, List.set_cons_succ, i64_w, i32_w]
           rfl
          refine pure_ (i := 11) (N := some 126) (v := ?_) (a' := ?_) (ra_ [12, 1]) rfl rfl (any_of HT_.out (by kernel_rfl)) (fun _ _ _ h => h) (Or.inl ⟨by rfl, ?_⟩) ?_ ?_
          rotate_left
          ·
           intro w'
           go_simp
           with_reducible rfl
          rotate_left
          ·
           simp only [Act.put, List.setIfInBounds_toArray, List.set_cons_zero, List.set_cons_succ, i64_w, i32_w]
           rfl
          refine pure_ (i := 12) (N := some 8) (v := ?_) (a' := ?_) (ra_ [13]) rfl rfl (any_of HT_.out (by kernel_rfl)) (fun _ _ _ h => h) (Or.inl ⟨by rfl, ?_⟩) ?_ ?_
          rotate_left
          ·
           intro w'
           go_simp
           with_reducible rfl
          rotate_left
          ·
           simp only [Act.put, List.setIfInBounds_toArray, List.set_cons_zero, List.set_cons_succ, i64_w, i32_w]
           rfl
          refine done_ (done_of HT_.out (by kernel_rfl)) ?_
          try go_wp2
          go_ret
          exact ⟨by first | rfl | (simp [errW_none, errW_some] <;> rfl) | (simp [*, errW_none, errW_some] <;> rfl), by repeat (first | (with_reducible first | exact HB.out | apply below_alloc | apply pw_below_drewN | apply below_drew1 | refine below_set ?_ GE240.out) | exact HB.out)⟩
         ·
          rw [if_neg c71] at H
          have c71b0 : decide ((t228.length : Int) ≤ 200) = false := decide_eq_false c71
          have c71b1 : decide (t228.length ≤ 200) = false := decide_eq_false (by omega)
          clear c71
          obtain rfl := Option.some.inj H
          try go_wp2
          refine start_ (n := 13) (S := fun w' => True) (ds := []) (ra_ [0, 13]) (by kernel_rfl) rfl rfl trivial (fun hHeld => ?_); refine with_tabW marigraphlaw12_AggWhole.tab20 marigraphlaw12_AggWhole.bits20 (fun HT_ HW_ => ?_)
          generalize wr.drew = w76 at HO_10 HO_12 HO_59 BK240 HB hHeld ⊢
          refine pure_ (i := 0) (N := some 115) (v := ?_) (a' := ?_) (ra_ [1, 12]) rfl rfl (any_of HT_.out (by kernel_rfl)) (fun _ _ _ h => h) (Or.inl ⟨by rfl, ?_⟩) ?_ ?_
          rotate_left
          ·
           intro w'
           go_simp
           with_reducible rfl
          rotate_left
          ·
           simp only [Act.put, List.setIfInBounds_toArray, List.set_cons_zero, List.set_cons_succ, i64_w, i32_w]
           rfl
          refine pure_ (i := 1) (N := some 116) (v := ?_) (a' := ?_) (ra_ [2, 11]) rfl rfl (any_of HT_.out (by kernel_rfl)) (fun _ _ _ h => h) (Or.inl ⟨by rfl, ?_⟩) ?_ ?_
          rotate_left
          ·
           intro w'
           go_simp
           with_reducible rfl
          rotate_left
          ·
           simp only [Act.put, List.setIfInBounds_toArray, List.set_cons_zero, List.set_cons_succ, i64_w, i32_w]
           rfl
          refine pure_ (i := 2) (N := some 117) (v := ?_) (a' := ?_) (ra_ [3, 10]) rfl rfl (any_of HT_.out (by kernel_rfl)) (fun _ _ _ h => h) (Or.inl ⟨by rfl, ?_⟩) ?_ ?_
          rotate_left
          ·
           intro w'
           go_simp
           with_reducible rfl
          rotate_left
          ·
           simp only [Act.put, List.setIfInBounds_toArray, List.set_cons_zero, List.set_cons_succ, i64_w, i32_w]
           rfl
          refine pure_ (i := 3) (N := some 118) (v := ?_) (a' := ?_) (ra_ [4, 9]) rfl rfl (any_of HT_.out (by kernel_rfl)) (fun _ _ _ h => h) (Or.inl ⟨by rfl, ?_⟩) ?_ ?_
          rotate_left
          ·
           intro w'
           go_simp
           with_reducible rfl
          rotate_left
          ·
           simp only [Act.put, List.setIfInBounds_toArray, List.set_cons_zero, List.set_cons_succ, i64_w, i32_w]
           rfl
          refine pure_ (i := 4) (N := some 119) (v := ?_) (a' := ?_) (ra_ [5, 8]) rfl rfl (any_of HT_.out (by kernel_rfl)) (fun _ _ _ h => h) (Or.inl ⟨by rfl, ?_⟩) ?_ ?_
          rotate_left
          ·
           intro w'
           go_simp
           with_reducible rfl
          rotate_left
          ·
           simp only [Act.put, List.setIfInBounds_toArray, List.set_cons_zero, List.set_cons_succ, i64_w, i32_w]
           rfl
          refine pure_ (i := 5) (N := some 120) (v := ?_) (a' := ?_) (ra_ [6, 7]) rfl rfl (any_of HT_.out (by kernel_rfl)) (fun _ _ _ h => h) (Or.inl ⟨by rfl, ?_⟩) ?_ ?_
          rotate_left
          ·
           intro w'
           go_simp
           with_reducible rfl
          rotate_left
          ·
           simp only [Act.put, List.setIfInBounds_toArray, List.set_cons_zero, List.set_cons_succ, i64_w, i32_w]
           rfl
          refine pure_ (i := 6) (N := some 121) (v := ?_) (a' := ?_) (ra_ [7, 6]) rfl rfl (any_of HT_.out (by kernel_rfl)) (fun _ _ _ h => h) (Or.inl ⟨by rfl, ?_⟩) ?_ ?_
          rotate_left
          ·
           intro w'
           go_simp
           with_reducible rfl
          rotate_left
          ·
           simp only [Act.put, List.setIfInBounds_toArray, List.set_cons_zero, List.set_cons_succ, i64_w, i32_w]
           rfl
          refine pure_ (i := 7) (N := some 122) (v := undef) (a' := ?_) (ra_ [8, 5]) rfl rfl (any_of HT_.out (by kernel_rfl)) (fun _ _ _ h => h) (Or.inr ⟨by rfl, rfl⟩) ?_ ?_
          rotate_left
          ·
           simp only [Act.put, List.setIfInBounds_toArray, List.set_cons_zero, List.set_cons_succ, i64_w, i32_w]
           rfl
          refine pure_ (i := 8) (N := some 123) (v := undef) (a' := ?_) (ra_ [9, 4]) rfl rfl (any_of HT_.out (by kernel_rfl)) (fun _ _ _ h => h) (Or.inr ⟨by rfl, rfl⟩) ?_ ?_
          rotate_left
          ·
           simp only [Act.put, List.setIfInBounds_toArray, List.set_cons_zero, List.set_cons_succ, i64_w, i32_w]
           rfl
          refine pure_ (i := 9) (N := some 124) (v := undef) (a' := ?_) (ra_ [10, 3]) rfl rfl (any_of HT_.out (by kernel_rfl)) (fun _ _ _ h => h) (Or.inr ⟨by rfl, rfl⟩) ?_ ?_
          rotate_left
          ·
           simp only [Act.put, List.setIfInBounds_toArray, List.set_cons_zero, List.set_cons_succ, i64_w, i32_w]
           rfl
          refine pure_ (i := 10) (N := some 125) (v := undef) (a' := ?_) (ra_ [11, 2]) rfl rfl (any_of HT_.out (by kernel_rfl)) (fun _ _ _ h => h) (Or.inr ⟨by rfl, rfl⟩) ?_ ?_
          rotate_left
          ·
           simp only [Act.put, List.setIfInBounds_toArray, List.set_cons_zero, List.set_cons_succ, i64_w, i32_w]
           rfl
          refine pure_ (i := 11) (N := some 126) (v := ?_) (a' := ?_) (ra_ [12, 1]) rfl rfl (any_of HT_.out (by kernel_rfl)) (fun _ _ _ h => h) (Or.inl ⟨by rfl, ?_⟩) ?_ ?_
          rotate_left
          ·
           intro w'
           go_simp
           with_reducible rfl
          rotate_left
          ·
           simp only [Act.put, List.setIfInBounds_toArray, List.set_cons_zero, List.set_cons_succ, i64_w, i32_w]
           rfl
          refine pure_ (i := 12) (N := some 8) (v := ?_) (a' := ?_) (ra_ [13]) rfl rfl (any_of HT_.out (by kernel_rfl)) (fun _ _ _ h => h) (Or.inl ⟨by rfl, ?_⟩) ?_ ?_
          rotate_left
          ·
           intro w'
           go_simp
           with_reducible rfl
          rotate_left
          ·
           simp only [Act.put, List.setIfInBounds_toArray, List.set_cons_zero, List.set_cons_succ, i64_w, i32_w]
           rfl
          refine done_ (done_of HT_.out (by kernel_rfl)) ?_
          try go_wp2
          go_ret
          exact ⟨by first | rfl | (simp [errW_none, errW_some] <;> rfl) | (simp [*, errW_none, errW_some] <;> rfl), by repeat (first | (with_reducible first | exact HB.out | apply below_alloc | apply pw_below_drewN | apply below_drew1 | refine below_set ?_ GE240.out) | exact HB.out)⟩
        ·
         replace c70 := Bool.eq_false_iff.mpr c70
         subst c70
         have H1 : (some false) = some r := by rw [if_neg (show ¬ (false = true) by decide)] at H; exact H
         clear H
         have H := H1
         clear H1
         obtain rfl := Option.some.inj H
         try go_wp2
         refine start_ (n := 13) (S := fun w' => True) (ds := []) (ra_ [0, 13]) (by kernel_rfl) rfl rfl trivial (fun hHeld => ?_); refine with_tabW marigraphlaw12_AggWhole.tab20 marigraphlaw12_AggWhole.bits20 (fun HT_ HW_ => ?_)
         generalize wr.drew = w77 at HO_10 HO_12 HO_59 BK240 HB hHeld ⊢
         refine pure_ (i := 0) (N := some 115) (v := ?_) (a' := ?_) (ra_ [1, 12]) rfl rfl (any_of HT_.out (by kernel_rfl)) (fun _ _ _ h => h) (Or.inl ⟨by rfl, ?_⟩) ?_ ?_
         rotate_left
         ·
          intro w'
          go_simp
          with_reducible rfl
         rotate_left
         ·
          simp only [Act.put, List.setIfInBounds_toArray, List.set_cons_zero, List.set_cons_succ, i64_w, i32_w]
          rfl
         refine pure_ (i := 1) (N := some 116) (v := ?_) (a' := ?_) (ra_ [2, 11]) rfl rfl (any_of HT_.out (by kernel_rfl)) (fun _ _ _ h => h) (Or.inl ⟨by rfl, ?_⟩) ?_ ?_
         rotate_left
         ·
          intro w'
          go_simp
          with_reducible rfl
         rotate_left
         ·
          simp only [Act.put, List.setIfInBounds_toArray, List.set_cons_zero, List.set_cons_succ, i64_w, i32_w]
          rfl
         refine pure_ (i := 2) (N := some 117) (v := undef) (a' := ?_) (ra_ [3, 10]) rfl rfl (any_of HT_.out (by kernel_rfl)) (fun _ _ _ h => h) (Or.inr ⟨by rfl, rfl⟩) ?_ ?_
         rotate_left
         ·
          simp only [Act.put, List.setIfInBounds_toArray, List.set_cons_zero, List.set_cons_succ, i64_w, i32_w]
          rfl
         refine pure_ (i := 3) (N := some 118) (v := undef) (a' := ?_) (ra_ [4, 9]) rfl rfl (any_of HT_.out (by kernel_rfl)) (fun _ _ _ h => h) (Or.inr ⟨by rfl, rfl⟩) ?_ ?_
         rotate_left
         ·
          simp only [Act.put, List.setIfInBounds_toArray, List.set_cons_zero, List.set_cons_succ, i64_w, i32_w]
          rfl
         refine pure_ (i := 4) (N := some 119) (v := undef) (a' := ?_) (ra_ [5, 8]) rfl rfl (any_of HT_.out (by kernel_rfl)) (fun _ _ _ h => h) (Or.inr ⟨by rfl, rfl⟩) ?_ ?_
         rotate_left
         ·
          simp only [Act.put, List.setIfInBounds_toArray, List.set_cons_zero, List.set_cons_succ, i64_w, i32_w]
          rfl
         refine pure_ (i := 5) (N := some 120) (v := ?_) (a' := ?_) (ra_ [6, 7]) rfl rfl (any_of HT_.out (by kernel_rfl)) (fun _ _ _ h => h) (Or.inl ⟨by rfl, ?_⟩) ?_ ?_
         rotate_left
         ·
          intro w'
          go_simp
          with_reducible rfl
         rotate_left
         ·
          simp only [Act.put, List.setIfInBounds_toArray, List.set_cons_zero, List.set_cons_succ, i64_w, i32_w]
          rfl
         refine pure_ (i := 6) (N := some 121) (v := ?_) (a' := ?_) (ra_ [7, 6]) rfl rfl (any_of HT_.out (by kernel_rfl)) (fun _ _ _ h => h) (Or.inl ⟨by rfl, ?_⟩) ?_ ?_
         rotate_left
         ·
          intro w'
          go_simp
          with_reducible rfl
         rotate_left
         ·
          simp only [Act.put, List.setIfInBounds_toArray, List.set_cons_zero, List.set_cons_succ, i64_w, i32_w]
          rfl
         refine pure_ (i := 7) (N := some 122) (v := undef) (a' := ?_) (ra_ [8, 5]) rfl rfl (any_of HT_.out (by kernel_rfl)) (fun _ _ _ h => h) (Or.inr ⟨by rfl, rfl⟩) ?_ ?_
         rotate_left
         ·
          simp only [Act.put, List.setIfInBounds_toArray, List.set_cons_zero, List.set_cons_succ, i64_w, i32_w]
          rfl
         refine pure_ (i := 8) (N := some 123) (v := undef) (a' := ?_) (ra_ [9, 4]) rfl rfl (any_of HT_.out (by kernel_rfl)) (fun _ _ _ h => h) (Or.inr ⟨by rfl, rfl⟩) ?_ ?_
         rotate_left
         ·
          simp only [Act.put, List.setIfInBounds_toArray, List.set_cons_zero, List.set_cons_succ, i64_w, i32_w]
          rfl
         refine pure_ (i := 9) (N := some 124) (v := undef) (a' := ?_) (ra_ [10, 3]) rfl rfl (any_of HT_.out (by kernel_rfl)) (fun _ _ _ h => h) (Or.inr ⟨by rfl, rfl⟩) ?_ ?_
         rotate_left
         ·
          simp only [Act.put, List.setIfInBounds_toArray, List.set_cons_zero, List.set_cons_succ, i64_w, i32_w]
          rfl
         refine pure_ (i := 10) (N := some 125) (v := undef) (a' := ?_) (ra_ [11, 2]) rfl rfl (any_of HT_.out (by kernel_rfl)) (fun _ _ _ h => h) (Or.inr ⟨by rfl, rfl⟩) ?_ ?_
         rotate_left
         ·
          simp only [Act.put, List.setIfInBounds_toArray, List.set_cons_zero, List.set_cons_succ, i64_w, i32_w]
          rfl
         refine pure_ (i := 11) (N := some 126) (v := ?_) (a' := ?_) (ra_ [12, 1]) rfl rfl (any_of HT_.out (by kernel_rfl)) (fun _ _ _ h => h) (Or.inl ⟨by rfl, ?_⟩) ?_ ?_
         rotate_left
         ·
          intro w'
          go_simp
          with_reducible rfl
         rotate_left
         ·
          simp only [Act.put, List.setIfInBounds_toArray, List.set_cons_zero, List.set_cons_succ, i64_w, i32_w]
          rfl
         refine pure_ (i := 12) (N := some 8) (v := ?_) (a' := ?_) (ra_ [13]) rfl rfl (any_of HT_.out (by kernel_rfl)) (fun _ _ _ h => h) (Or.inl ⟨by rfl, ?_⟩) ?_ ?_
         rotate_left
         ·
          intro w'
          go_simp
          with_reducible rfl
         rotate_left
         ·
          simp only [Act.put, List.setIfInBounds_toArray, List.set_cons_zero, List.set_cons_succ, i64_w, i32_w]
          rfl
         refine done_ (done_of HT_.out (by kernel_rfl)) ?_
         try go_wp2
         go_ret
         exact ⟨by first | rfl | (simp [errW_none, errW_some] <;> rfl) | (simp [*, errW_none, errW_some] <;> rfl), by repeat (first | (with_reducible first | exact HB.out | apply below_alloc | apply pw_below_drewN | apply below_drew1 | refine below_set ?_ GE240.out) | exact HB.out)⟩
 ·
  rw [if_neg c8] at H
  have c8b0 : (t229 == 0) = false := beq_eq_false_iff_ne.mpr c8
  have c8b1 : (t229 != 0) = true := bne_iff_ne.mpr c8
  by_cases c78 : t224 = true
  ·
   subst c78
   have H1 : (some ((t228.length : Int) == 0)) = some r := by rw [if_pos rfl] at H; exact H
   clear H
   have H := H1
   clear H1
   obtain rfl := Option.some.inj H
   go_enter Try.func16, Try.ntmps16
   go_wp2_with (first | ((with_reducible refine gate_callee (f := 28) rfl ?_); refine goesL_ (some 18) rfl rfl Try.func28 (by kernel_rfl) rfl #[] rfl (by (try simp only [List.map_toArray, List.map_cons, List.map_nil]); first | done | rfl | (simp only [List.length_drop, List.length_take]; rfl)) ?_; (with_reducible refine (marigraphlaw12_shown.calls k  true _ A5.out).mono ?_); rintro e w79 ⟨rfl, hb⟩; refine ⟨_, rfl, ?_⟩; have n0_ := Aside0.mk (below_step (by repeat (first | (with_reducible first | exact HB.out | apply below_alloc | apply pw_below_drewN | apply below_drew1) | exact HB.out)) hb); clear HB; have HB := n0_; clear n0_; (try clear hb); (try clear hb2); (try clear hk); (try clear hi)) | ((with_reducible refine gate_callee (f := 30) rfl ?_); refine goesL_ (some 21) rfl rfl Try.func30 (by kernel_rfl) rfl #[.slice A0 l0.length c0] rfl (by (try simp only [List.map_toArray, List.map_cons, List.map_nil]); first | done | rfl | (simp only [List.length_drop, List.length_take]; rfl)) ?_; (with_reducible refine (marigraphlaw12_few.calls (fun k_ => k_ < w.heap.size) _ _ l0 t225 _ ?side1 A6.out).mono ?_); (case side1 => exact Kd.V_mk HC0.out (Kd.F_below (Kd.C_F k33_heap HR0.out) (by repeat (first | (with_reducible first | exact HB.out | apply below_alloc | apply pw_below_drewN | apply below_drew1) | exact HB.out)))); rintro e w80 ⟨v226, rfl, ho0, hb⟩; refine ⟨_, rfl, ?_⟩; have n0_ := Aside0.mk (Kd.V_lower (Kd.V_mono (ok' := fun k_ => True) ho0 (fun k_ hk_ => trivial)) (below_size (by repeat (first | (with_reducible first | exact HB.out | apply below_alloc | apply pw_below_drewN | apply below_drew1) | exact HB.out)))); have n1_ := Aside0.mk (below_step (by repeat (first | (with_reducible first | exact HB.out | apply below_alloc | apply pw_below_drewN | apply below_drew1) | exact HB.out)) hb); clear HB; have HO227 := n0_; have HB := n1_; clear n0_ n1_; (try clear hb); (try clear hb2); (try clear hk); (try clear hi); (try clear ho0); obtain ⟨Ao81, co81, eo81⟩ := Kd.V_slice HO227.out; subst eo81) | ((with_reducible refine gate_callee (f := 37) rfl ?_); refine goesL_ (some 25) rfl rfl Try.func37 (by kernel_rfl) rfl #[.slice Ao81 t225.length co81, .int .i64 a1, .int .i64 a2, .int .i64 a3] rfl (by (try simp only [List.map_toArray, List.map_cons, List.map_nil]); first | done | rfl | (simp only [List.length_drop, List.length_take]; rfl)) ?_; (with_reducible refine (agg_Buckets.calls k _ _ t225 a1 a2 a3 t228 t229 _ ?side1 ?side2 A7.out).mono ?_); (case side1 => repeat (first | exact (Kd.V_reads' HO227.out).2.2 | (with_reducible refine Kd.C_alloc ?_ _) | (with_reducible refine Kd.C_drewN ?_ _) | (with_reducible refine Kd.C_drew ?_))); (case side2 => exact (Kd.V_reads' HO227.out).2.1); rintro e w82 ⟨v230, rfl, ho0, hb⟩; refine ⟨_, rfl, ?_⟩; have n0_ := Aside0.mk (Kd.V_elder' (by (with_reducible repeat (first | apply Kd.V_alloc | apply Kd.V_drewN | apply Kd.V_drew)); exact HO227.out) (Kd.R_base ho0) hb); have n1_ := Aside0.mk (Kd.R_lower ho0 (below_size (by repeat (first | (with_reducible first | exact HB.out | apply below_alloc | apply pw_below_drewN | apply below_drew1) | exact HB.out)))); have n2_ := Aside0.mk (below_step (by repeat (first | (with_reducible first | exact HB.out | apply below_alloc | apply pw_below_drewN | apply below_drew1) | exact HB.out)) hb); clear HO227; clear HB; have HO227 := n0_; have HO231 := n1_; have HB := n2_; clear n0_ n1_ n2_; (try clear hb); (try clear hb2); (try clear hk); (try clear hi); (try clear ho0); obtain ⟨Ao83, co83, eo83⟩ := Kd.R_slice HO231.out; subst eo83))
   go_ret
   exact ⟨by first | rfl | (simp [errW_none, errW_some] <;> rfl) | (simp [*, errW_none, errW_some] <;> rfl), by repeat (first | (with_reducible first | exact HB.out | apply below_alloc | apply pw_below_drewN | apply below_drew1) | exact HB.out)⟩
  ·
   replace c78 := Bool.eq_false_iff.mpr c78
   subst c78
   have H1 : (some false) = some r := by rw [if_neg (show ¬ (false = true) by decide)] at H; exact H
   clear H
   have H := H1
   clear H1
   obtain rfl := Option.some.inj H
   go_enter Try.func16, Try.ntmps16
   go_wp2_with (first | ((with_reducible refine gate_callee (f := 28) rfl ?_); refine goesL_ (some 18) rfl rfl Try.func28 (by kernel_rfl) rfl #[] rfl (by (try simp only [List.map_toArray, List.map_cons, List.map_nil]); first | done | rfl | (simp only [List.length_drop, List.length_take]; rfl)) ?_; (with_reducible refine (marigraphlaw12_shown.calls k  false _ A5.out).mono ?_); rintro e w84 ⟨rfl, hb⟩; refine ⟨_, rfl, ?_⟩; have n0_ := Aside0.mk (below_step (by repeat (first | (with_reducible first | exact HB.out | apply below_alloc | apply pw_below_drewN | apply below_drew1) | exact HB.out)) hb); clear HB; have HB := n0_; clear n0_; (try clear hb); (try clear hb2); (try clear hk); (try clear hi)) | ((with_reducible refine gate_callee (f := 30) rfl ?_); refine goesL_ (some 21) rfl rfl Try.func30 (by kernel_rfl) rfl #[.slice A0 l0.length c0] rfl (by (try simp only [List.map_toArray, List.map_cons, List.map_nil]); first | done | rfl | (simp only [List.length_drop, List.length_take]; rfl)) ?_; (with_reducible refine (marigraphlaw12_few.calls (fun k_ => k_ < w.heap.size) _ _ l0 t225 _ ?side1 A6.out).mono ?_); (case side1 => exact Kd.V_mk HC0.out (Kd.F_below (Kd.C_F k33_heap HR0.out) (by repeat (first | (with_reducible first | exact HB.out | apply below_alloc | apply pw_below_drewN | apply below_drew1) | exact HB.out)))); rintro e w85 ⟨v226, rfl, ho0, hb⟩; refine ⟨_, rfl, ?_⟩; have n0_ := Aside0.mk (Kd.V_lower (Kd.V_mono (ok' := fun k_ => True) ho0 (fun k_ hk_ => trivial)) (below_size (by repeat (first | (with_reducible first | exact HB.out | apply below_alloc | apply pw_below_drewN | apply below_drew1) | exact HB.out)))); have n1_ := Aside0.mk (below_step (by repeat (first | (with_reducible first | exact HB.out | apply below_alloc | apply pw_below_drewN | apply below_drew1) | exact HB.out)) hb); clear HB; have HO227 := n0_; have HB := n1_; clear n0_ n1_; (try clear hb); (try clear hb2); (try clear hk); (try clear hi); (try clear ho0); obtain ⟨Ao86, co86, eo86⟩ := Kd.V_slice HO227.out; subst eo86) | ((with_reducible refine gate_callee (f := 37) rfl ?_); refine goesL_ (some 25) rfl rfl Try.func37 (by kernel_rfl) rfl #[.slice Ao86 t225.length co86, .int .i64 a1, .int .i64 a2, .int .i64 a3] rfl (by (try simp only [List.map_toArray, List.map_cons, List.map_nil]); first | done | rfl | (simp only [List.length_drop, List.length_take]; rfl)) ?_; (with_reducible refine (agg_Buckets.calls k _ _ t225 a1 a2 a3 t228 t229 _ ?side1 ?side2 A7.out).mono ?_); (case side1 => repeat (first | exact (Kd.V_reads' HO227.out).2.2 | (with_reducible refine Kd.C_alloc ?_ _) | (with_reducible refine Kd.C_drewN ?_ _) | (with_reducible refine Kd.C_drew ?_))); (case side2 => exact (Kd.V_reads' HO227.out).2.1); rintro e w87 ⟨v230, rfl, ho0, hb⟩; refine ⟨_, rfl, ?_⟩; have n0_ := Aside0.mk (Kd.V_elder' (by (with_reducible repeat (first | apply Kd.V_alloc | apply Kd.V_drewN | apply Kd.V_drew)); exact HO227.out) (Kd.R_base ho0) hb); have n1_ := Aside0.mk (Kd.R_lower ho0 (below_size (by repeat (first | (with_reducible first | exact HB.out | apply below_alloc | apply pw_below_drewN | apply below_drew1) | exact HB.out)))); have n2_ := Aside0.mk (below_step (by repeat (first | (with_reducible first | exact HB.out | apply below_alloc | apply pw_below_drewN | apply below_drew1) | exact HB.out)) hb); clear HO227; clear HB; have HO227 := n0_; have HO231 := n1_; have HB := n2_; clear n0_ n1_ n2_; (try clear hb); (try clear hb2); (try clear hk); (try clear hi); (try clear ho0)))
   go_ret
   exact ⟨by first | rfl | (simp [errW_none, errW_some] <;> rfl) | (simp [*, errW_none, errW_some] <;> rfl), by repeat (first | (with_reducible first | exact HB.out | apply below_alloc | apply pw_below_drewN | apply below_drew1) | exact HB.out)⟩

end Go.Proofs.Ytjkpdjadbeidnaa.X
