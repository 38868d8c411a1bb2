/- What marks say: bits read as the numbers whose marks they are. -/
import Derived.Test.YthkpnnbjcendcaaGb
set_option linter.unusedVariables false
set_option linter.unusedSimpArgs false
open Go.RowKit Go.Proofs.Ythkpnnbjcendcaa.X Go.Proofs.Ythkpnnbjcendcaa.Pl Go.Proofs.YthkpnnbjcendcaaW.PrintWords Go.Proofs.YthkpnnbjcendcaaW.PrintLast Go.Proofs.YthkpnnbjcendcaaW.PrintMore
namespace Go.Proofs.Ythkpnnbjcendcaa.Pure
/-- From the place p on the bits are these. -/
def Seg (b : List Int) (p : Nat) (L : List Bool) : Prop := p + L.length ≤ 8 * b.length ∧ ∀ j, j < L.length → bt b (p + j) = b2 (L.getD j false)
theorem getD_app {A B : List Bool} (j : Nat) : (A ++ B).getD j false = if j < A.length then A.getD j false else B.getD (j - A.length) false := by
  rw [List.getD_eq_getElem?_getD, List.getD_eq_getElem?_getD, List.getD_eq_getElem?_getD]
  split
  · rw [List.getElem?_append_left (by assumption)]
  · rw [List.getElem?_append_right (by omega)]
theorem seg_app {b : List Int} {p : Nat} {A B : List Bool} : Seg b p (A ++ B) ↔ Seg b p A ∧ Seg b (p + A.length) B := by
  unfold Seg
  rw [List.length_append]
  constructor
  · rintro ⟨h1, h2⟩
    refine ⟨⟨by omega, fun j hj => ?_⟩, by omega, fun j hj => ?_⟩
    · have := h2 j (by omega)
      rw [getD_app, if_pos hj] at this
      exact this
    · have := h2 (A.length + j) (by omega)
      rw [getD_app, if_neg (by omega), show A.length + j - A.length = j by omega, ← Nat.add_assoc] at this
      exact this
  · rintro ⟨⟨h1, h2⟩, h3, h4⟩
    refine ⟨by omega, fun j hj => ?_⟩
    rw [getD_app]
    split
    · exact h2 j (by assumption)
    · have := h4 (j - A.length) (by omega)
      rw [show p + A.length + (j - A.length) = p + j by omega] at this
      exact this
theorem seg_nil {b : List Int} {p : Nat} (h : p ≤ 8 * b.length) : Seg b p [] := ⟨by simpa using h, fun j hj => absurd hj (by simp)⟩
theorem val_bits (b : List Int) (p : Nat) : ∀ (w j : Nat), j < w → bt b (p + j) = val b p w / 2 ^ (w - 1 - j) % 2
  | 0, j, h => absurd h (by omega)
  | w + 1, j, h => by
    rw [val]
    have hb := bt_lt b (p + w)
    by_cases hj : j = w
    · subst hj
      rw [show j + 1 - 1 - j = 0 by omega, Nat.pow_zero, Nat.div_one]
      omega
    · rw [val_bits b p w j (by omega), show w + 1 - 1 - j = (w - 1 - j) + 1 by omega, Nat.pow_succ', ← Nat.div_div_eq_div_mul]
      congr 2
      omega
theorem seg_nb {b : List Int} {p n w : Nat} (hn : n < 2 ^ w) : Seg b p (nb n w) ↔ p + w ≤ 8 * b.length ∧ val b p w = n := by
  unfold Seg
  rw [nb_length]
  constructor
  · rintro ⟨h1, h2⟩
    refine ⟨h1, ?_⟩
    have e : ∀ w n : Nat, (∀ j, j < w → bt b (p + j) = n / 2 ^ (w - 1 - j) % 2) → val b p w = n % 2 ^ w := by
      intro w
      induction w with
      | zero => intro n _; simp [val, Nat.mod_one]
      | succ w ih =>
        intro n h
        have g1 := ih (n / 2) (fun j hj => by
          rw [h j (by omega), Nat.div_div_eq_div_mul, ← Nat.pow_succ', show (w - 1 - j).succ = w + 1 - 1 - j by omega])
        have g2 := h w (by omega)
        rw [show w + 1 - 1 - w = 0 by omega, Nat.pow_zero, Nat.div_one] at g2
        rw [val, g1, g2, Nat.pow_succ', Nat.mod_mul]
        omega
    rw [e w n (fun j hj => by rw [h2 j hj, nb_getD hj]), Nat.mod_eq_of_lt hn]
  · rintro ⟨h1, rfl⟩
    exact ⟨h1, fun j hj => by rw [nb_getD hj, val_bits b p w j hj]⟩
theorem val_one (b : List Int) (p : Nat) : val b p 1 = bt b p := by simp [val]
/-- How many 1s stand there, up to four. -/
def onesAt (b : List Int) (p : Nat) : Nat :=
  if ¬(p + 1 ≤ 8 * b.length ∧ bt b p = 1) then 0 else if ¬(p + 2 ≤ 8 * b.length ∧ bt b (p + 1) = 1) then 1 else if ¬(p + 3 ≤ 8 * b.length ∧ bt b (p + 2) = 1) then 2 else if ¬(p + 4 ≤ 8 * b.length ∧ bt b (p + 3) = 1) then 3 else 4
def wid (k : Nat) : Nat := if k = 0 then 0 else if k = 1 then 7 else if k = 2 then 14 else if k = 3 then 32 else 64
def headW (k : Nat) : Nat := if k < 4 then k + 1 else 4
def openN (u : Nat) : Int := if u % 2 = 1 then -((u / 2 : Nat) : Int) - 1 else ((u / 2 : Nat) : Int)
/-- The mark that stands there: its 1s, its number, the place behind it. -/
def decM (b : List Int) (p : Nat) : Option (Nat × Nat × Nat) :=
  if p + headW (onesAt b p) + wid (onesAt b p) ≤ 8 * b.length then some (onesAt b p, val b (p + headW (onesAt b p)) (wid (onesAt b p)), p + headW (onesAt b p) + wid (onesAt b p)) else none
/-- The same without the question if fewer 1s would do. -/
def decL (b : List Int) (p : Nat) : Option (Int × Nat) := match decM b p with
  | some (_, u, q) => some (openN u, q)
  | none => none
def decS (b : List Int) (p : Nat) : Option (Int × Nat) := match decM b p with
  | some (k, u, q) => if 0 < k ∧ u < 2 ^ wid (k - 1) then none else some (openN u, q)
  | none => none
theorem ones_le (b : List Int) (p : Nat) : onesAt b p ≤ 4 := by unfold onesAt; (repeat' split) <;> omega
theorem open_fits {u : Nat} (h : u < 2 ^ 64) : fits64 (openN u) := by unfold fits64 openN; split <;> omega
theorem fold_open {u : Nat} : foldN (openN u) = u := by unfold foldN openN; (repeat' split) <;> omega
theorem open_fold (n : Int) : openN (foldN n) = n := by unfold foldN openN; (repeat' split) <;> omega
theorem dec_mark_some {b : List Int} {p k u q : Nat} (h : decM b p = some (k, u, q)) : k = onesAt b p ∧ u = val b (p + headW k) (wid k) ∧ q = p + headW k + wid k ∧ q ≤ 8 * b.length := by
  unfold decM at h
  split at h
  case isFalse => cases h
  case isTrue hl =>
    injection h with h
    injection h with h1 h
    injection h with h2 h3
    subst h1
    exact ⟨rfl, h2.symm, h3.symm, by omega⟩
/-- A mark by its 1s. -/
def markK (k u : Nat) : List Bool := (if k = 0 then [false] else if k = 1 then nb 2 2 else if k = 2 then nb 6 3 else if k = 3 then nb 14 4 else nb 15 4) ++ nb u (wid k)
theorem markK_length (k u : Nat) (hk : k ≤ 4) : (markK k u).length = headW k + wid k := by
  unfold markK headW
  rw [List.length_append, nb_length]
  rcases (by omega : k = 0 ∨ k = 1 ∨ k = 2 ∨ k = 3 ∨ k = 4) with rfl | rfl | rfl | rfl | rfl <;> simp [nb_length]
theorem seg_bit {b : List Int} {p : Nat} {c : Bool} : Seg b p [c] ↔ p + 1 ≤ 8 * b.length ∧ bt b p = b2 c := by
  unfold Seg
  constructor
  · rintro ⟨h1, h2⟩
    have := h2 0 (by simp)
    simpa using ⟨h1, this⟩
  · rintro ⟨h1, h2⟩
    refine ⟨by simpa using h1, fun j hj => ?_⟩
    have : j = 0 := by simp at hj; omega
    subst this
    simpa using h2
theorem seg_cons {b : List Int} {p : Nat} {c : Bool} {L : List Bool} : Seg b p (c :: L) ↔ Seg b p [c] ∧ Seg b (p + 1) L := by
  rw [show c :: L = [c] ++ L from rfl, seg_app]
  rfl
theorem head_bits (k : Nat) (hk : k ≤ 4) : (if k = 0 then [false] else if k = 1 then nb 2 2 else if k = 2 then nb 6 3 else if k = 3 then nb 14 4 else nb 15 4) = (if k = 0 then [false] else if k = 1 then [true, false] else if k = 2 then [true, true, false] else if k = 3 then [true, true, true, false] else [true, true, true, true]) := by
  rcases (by omega : k = 0 ∨ k = 1 ∨ k = 2 ∨ k = 3 ∨ k = 4) with rfl | rfl | rfl | rfl | rfl <;> decide
theorem one_ne : ((1 : Nat) = 0) = False := by simp
theorem seg_ones {b : List Int} {p k u : Nat} (hk : k ≤ 4) (h : Seg b p (markK k u)) : onesAt b p = k := by
  unfold markK at h
  rw [head_bits k hk] at h
  have h := (seg_app.1 h).1
  rcases (by omega : k = 0 ∨ k = 1 ∨ k = 2 ∨ k = 3 ∨ k = 4) with rfl | rfl | rfl | rfl | rfl <;> simp only [Nat.reduceEqDiff, if_true, if_false, Bool.false_eq_true, seg_cons (L := _ :: _), seg_bit, b2, Nat.add_assoc, Nat.reduceAdd, Nat.succ_ne_zero, one_ne] at h <;> unfold onesAt
  · rw [if_pos (by omega)]
  · rw [if_neg (by omega), if_pos (by omega)]
  · rw [if_neg (by omega), if_neg (by omega), if_pos (by omega)]
  · rw [if_neg (by omega), if_neg (by omega), if_neg (by omega), if_pos (by omega)]
  · rw [if_neg (by omega), if_neg (by omega), if_neg (by omega), if_neg (by omega)]
theorem ones_seg {b : List Int} {p : Nat} (h : p + headW (onesAt b p) ≤ 8 * b.length) : Seg b p (if onesAt b p = 0 then [false] else if onesAt b p = 1 then [true, false] else if onesAt b p = 2 then [true, true, false] else if onesAt b p = 3 then [true, true, true, false] else [true, true, true, true]) := by
  have t0 := bt_lt b p
  have t1 := bt_lt b (p + 1)
  have t2 := bt_lt b (p + 2)
  have t3 := bt_lt b (p + 3)
  by_cases c0 : p + 1 ≤ 8 * b.length ∧ bt b p = 1
  · by_cases c1 : p + 2 ≤ 8 * b.length ∧ bt b (p + 1) = 1
    · by_cases c2 : p + 3 ≤ 8 * b.length ∧ bt b (p + 2) = 1
      · by_cases c3 : p + 4 ≤ 8 * b.length ∧ bt b (p + 3) = 1
        · have e : onesAt b p = 4 := by unfold onesAt; rw [if_neg (by omega), if_neg (by omega), if_neg (by omega), if_neg (by omega)]
          rw [e] at h ⊢
          simp only [headW] at h
          simp only [Nat.reduceEqDiff, if_true, if_false, seg_cons (L := _ :: _), seg_bit, b2, Nat.add_assoc]
          simp at h ⊢
          omega
        · have e : onesAt b p = 3 := by unfold onesAt; rw [if_neg (by omega), if_neg (by omega), if_neg (by omega), if_pos c3]
          rw [e] at h ⊢
          simp only [headW] at h
          simp only [Nat.reduceEqDiff, if_true, if_false, seg_cons (L := _ :: _), seg_bit, b2, Nat.add_assoc]
          simp at h ⊢
          omega
      · have e : onesAt b p = 2 := by unfold onesAt; rw [if_neg (by omega), if_neg (by omega), if_pos c2]
        rw [e] at h ⊢
        simp only [headW] at h
        simp only [Nat.reduceEqDiff, if_true, if_false, seg_cons (L := _ :: _), seg_bit, b2, Nat.add_assoc]
        simp at h ⊢
        omega
    · have e : onesAt b p = 1 := by unfold onesAt; rw [if_neg (by omega), if_pos c1]
      rw [e] at h ⊢
      simp only [headW] at h
      simp only [Nat.reduceEqDiff, if_true, if_false, seg_cons (L := _ :: _), seg_bit, b2, Nat.add_assoc]
      simp at h ⊢
      omega
  · have e : onesAt b p = 0 := by unfold onesAt; rw [if_pos c0]
    rw [e] at h ⊢
    simp only [headW] at h
    simp only [if_true, seg_bit, b2]
    simp at h ⊢
    omega
theorem decM_seg {b : List Int} {p k u q : Nat} : decM b p = some (k, u, q) ↔ k ≤ 4 ∧ u < 2 ^ wid k ∧ Seg b p (markK k u) ∧ q = p + (markK k u).length := by
  constructor
  · intro h
    obtain ⟨rfl, hu, hq, hl⟩ := dec_mark_some h
    have hk := ones_le b p
    have hlt : u < 2 ^ wid (onesAt b p) := hu ▸ val_lt _ _ _
    refine ⟨hk, hlt, ?_, by rw [markK_length _ _ hk]; omega⟩
    unfold markK
    rw [head_bits _ hk, seg_app]
    refine ⟨ones_seg (by omega), ?_⟩
    rw [seg_nb hlt]
    have hh : (if onesAt b p = 0 then [false] else if onesAt b p = 1 then [true, false] else if onesAt b p = 2 then [true, true, false] else if onesAt b p = 3 then [true, true, true, false] else [true, true, true, true]).length = headW (onesAt b p) := by
      unfold headW
      rcases (by omega : onesAt b p = 0 ∨ onesAt b p = 1 ∨ onesAt b p = 2 ∨ onesAt b p = 3 ∨ onesAt b p = 4) with e | e | e | e | e <;> rw [e] <;> simp
    rw [hh]
    exact ⟨by omega, hu.symm⟩
  · rintro ⟨hk, hu, hs, rfl⟩
    have e := seg_ones hk hs
    have hl := hs.1
    rw [markK_length _ _ hk] at hl ⊢
    unfold markK at hs
    have h2 := (seg_app.1 hs).2
    rw [seg_nb hu] at h2
    have hh : (if k = 0 then [false] else if k = 1 then nb 2 2 else if k = 2 then nb 6 3 else if k = 3 then nb 14 4 else nb 15 4).length = headW k := by
      unfold headW
      rcases (by omega : k = 0 ∨ k = 1 ∨ k = 2 ∨ k = 3 ∨ k = 4) with rfl | rfl | rfl | rfl | rfl <;> simp [nb_length]
    rw [hh] at h2
    unfold decM
    rw [e, if_pos (by omega), h2.2, Nat.add_assoc]
theorem markB_K (n : Int) (h : fits64 n) : ∃ k, k ≤ 4 ∧ foldN n < 2 ^ wid k ∧ markB n = markK k (foldN n) ∧ ¬(0 < k ∧ foldN n < 2 ^ wid (k - 1)) := by
  have hu := foldN_lt h
  unfold markB markK
  generalize foldN n = u at hu
  by_cases c0 : u = 0
  · exact ⟨0, by omega, by simp [wid, c0], by subst c0; simp [wid, nb], by simp⟩
  · by_cases c1 : u < 128
    · exact ⟨1, by omega, by simpa [wid] using c1, by simp [c0, c1, wid], by simp [wid]; omega⟩
    · by_cases c2 : u < 16384
      · exact ⟨2, by omega, by simpa [wid] using c2, by simp [c0, c1, c2, wid], by simp [wid]; omega⟩
      · by_cases c3 : u < 4294967296
        · exact ⟨3, by omega, by simpa [wid] using c3, by simp [c0, c1, c2, c3, wid], by simp [wid]; omega⟩
        · exact ⟨4, by omega, by simpa [wid] using hu, by simp [c0, c1, c2, c3, wid], by simp [wid]; omega⟩
theorem markK_B (k u : Nat) (hk : k ≤ 4) (hu : u < 2 ^ wid k) (hc : ¬(0 < k ∧ u < 2 ^ wid (k - 1))) : markB (openN u) = markK k u ∧ fits64 (openN u) := by
  have h64 : u < 2 ^ 64 := by
    have : wid k ≤ 64 := by unfold wid; (repeat' split) <;> omega
    exact Nat.lt_of_lt_of_le hu (Nat.pow_le_pow_right (by decide) this)
  refine ⟨?_, open_fits h64⟩
  unfold markB markK
  rw [fold_open]
  rcases (by omega : k = 0 ∨ k = 1 ∨ k = 2 ∨ k = 3 ∨ k = 4) with rfl | rfl | rfl | rfl | rfl
  · have : u = 0 := by simpa [wid] using hu
    subst this
    simp [wid, nb]
  · have h1 : u < 128 := by simpa [wid] using hu
    have h2 : u ≠ 0 := by simpa [wid] using hc
    simp [h1, h2, wid]
  · have h1 : u < 16384 := by simpa [wid] using hu
    have h2 : 128 ≤ u := by simpa [wid] using hc
    simp [h1, wid, show u ≠ 0 by omega, show ¬ u < 128 by omega]
  · have h1 : u < 4294967296 := by simpa [wid] using hu
    have h2 : 16384 ≤ u := by simpa [wid] using hc
    simp [h1, wid, show u ≠ 0 by omega, show ¬ u < 128 by omega, show ¬ u < 16384 by omega]
  · have h2 : 4294967296 ≤ u := by simpa [wid] using hc
    simp [wid, show u ≠ 0 by omega, show ¬ u < 128 by omega, show ¬ u < 16384 by omega, show ¬ u < 4294967296 by omega]
theorem decS_seg {b : List Int} {p q : Nat} {n : Int} : decS b p = some (n, q) ↔ fits64 n ∧ Seg b p (markB n) ∧ q = p + (markB n).length := by
  constructor
  · intro h
    unfold decS at h
    split at h
    case h_2 => cases h
    case h_1 k u q' hm =>
      split at h
      case isTrue => cases h
      case isFalse hc =>
        injection h with h
        injection h with h1 h2
        subst h1 h2
        obtain ⟨hk, hu, hs, hq⟩ := decM_seg.1 hm
        obtain ⟨e, hf⟩ := markK_B k u hk hu hc
        rw [e]
        exact ⟨hf, hs, hq⟩
  · rintro ⟨hf, hs, rfl⟩
    obtain ⟨k, hk, hu, e, hc⟩ := markB_K n hf
    rw [e] at hs
    unfold decS
    rw [decM_seg.2 ⟨hk, hu, hs, rfl⟩]
    dsimp only
    rw [if_neg hc, open_fold, e]
theorem decS_L {b : List Int} {p q : Nat} {n : Int} (h : decS b p = some (n, q)) : decL b p = some (n, q) := by
  unfold decS at h
  unfold decL
  split at h
  case h_2 => cases h
  case h_1 k u q' hm =>
    split at h
    case isTrue => cases h
    case isFalse => exact h
end Go.Proofs.Ythkpnnbjcendcaa.Pure
