/- What bytes say: the points that would be put so. -/
import Derived.Test.YthkpnnbjcendcaaPd
import Derived.Test.YthkpnnbjcendcaaPbk
set_option linter.unusedVariables false
set_option linter.unusedSimpArgs false
open Go.RowKit Go.Proofs.Ythkpnnbjcendcaa.X Go.Proofs.Ythkpnnbjcendcaa.Pl Go.Proofs.YthkpnnbjcendcaaW.PrintWords Go.Proofs.YthkpnnbjcendcaaW.PrintLast Go.Proofs.YthkpnnbjcendcaaW.PrintMore
namespace Go.Proofs.Ythkpnnbjcendcaa.Pure
/-- So many pairs of marks. -/
def decXY (f : List Int → Nat → Option (Int × Nat)) (b : List Int) : Nat → Nat → Option (List Int × List Int × Nat)
  | 0, p => some ([], [], p)
  | k + 1, p => match f b p with
    | none => none
    | some (x, p1) => match f b p1 with
      | none => none
      | some (y, p2) => match decXY f b k p2 with
        | none => none
        | some (xs, ys, q) => some (x :: xs, y :: ys, q)
def zipP (xs ys : List Int) : List S52 := List.zipWith (fun t v => ⟨t, v⟩) xs ys
theorem zipP_cons (x y : Int) (xs ys : List Int) : zipP (x :: xs) (y :: ys) = ⟨x, y⟩ :: zipP xs ys := rfl
theorem zipP_nil : zipP [] [] = [] := rfl
theorem zipP_length (xs ys : List Int) (h : xs.length = ys.length) : (zipP xs ys).length = xs.length := by
  unfold zipP
  rw [List.length_zipWith]
  omega
theorem zipP_f0 : ∀ xs ys : List Int, xs.length = ys.length → (zipP xs ys).map (·.f0) = xs
  | [], [], _ => rfl
  | x :: xs, y :: ys, h => by rw [zipP_cons, List.map_cons, zipP_f0 xs ys (by simpa using h)]
  | [], y :: ys, h => by simp at h
  | x :: xs, [], h => by simp at h
theorem zipP_f1 : ∀ xs ys : List Int, xs.length = ys.length → (zipP xs ys).map (·.f1) = ys
  | [], [], _ => rfl
  | x :: xs, y :: ys, h => by rw [zipP_cons, List.map_cons, zipP_f1 xs ys (by simpa using h)]
  | [], y :: ys, h => by simp at h
  | x :: xs, [], h => by simp at h
theorem zipP_map (l : List S52) : zipP (l.map (·.f0)) (l.map (·.f1)) = l := by
  induction l with
  | nil => rfl
  | cons p l ih => rw [List.map_cons, List.map_cons, zipP_cons, ih]
theorem zipP_fit (xs ys : List Int) (hx : ∀ x ∈ xs, fits64 x) (hy : ∀ y ∈ ys, fits64 y) : fitP (zipP xs ys) := by
  intro p hp
  unfold zipP at hp
  obtain ⟨i, hi, rfl⟩ := List.mem_iff_getElem.1 hp
  rw [List.getElem_zipWith]
  exact ⟨hx _ (List.getElem_mem _), hy _ (List.getElem_mem _)⟩
theorem frs_fits (l : List Int) : ∀ a b, ∀ x ∈ frs a b l, fits64 x := by
  induction l with
  | nil => intro a b x hx; simp [frs] at hx
  | cons s l ih =>
    intro a b x hx
    rw [frs] at hx
    rcases List.mem_cons.1 hx with rfl | hx
    · exact fits_wrap _
    · exact ih _ _ x hx
theorem secs_fits (l : List Int) : ∀ a b, ∀ x ∈ secs a b l, fits64 x := by
  induction l with
  | nil => intro a b x hx; simp [secs] at hx
  | cons s l ih =>
    intro a b x hx
    rw [secs] at hx
    rcases List.mem_cons.1 hx with rfl | hx
    · exact fits_wrap _
    · exact ih _ _ x hx
theorem XY_len (f : List Int → Nat → Option (Int × Nat)) (b : List Int) : ∀ k p {xs ys q}, decXY f b k p = some (xs, ys, q) → xs.length = k ∧ ys.length = k
  | 0, p, xs, ys, q, h => by
    rw [decXY] at h
    injection h with h
    injection h with h1 h
    injection h with h2 h3
    subst h1 h2
    exact ⟨rfl, rfl⟩
  | k + 1, p, xs, ys, q, h => by
    rw [decXY] at h
    split at h
    · cases h
    · split at h
      · cases h
      · split at h
        · cases h
        · rename_i x p1 _ _ y p2 _ _ xs' ys' q' hr
          injection h with h
          injection h with h1 h
          injection h with h2 h3
          subst h1 h2
          have := XY_len f b k p2 hr
          simp [this.1, this.2]
theorem XY_seg (b : List Int) : ∀ k p, p ≤ 8 * b.length → ∀ xs ys q, decXY decS b k p = some (xs, ys, q) ↔ xs.length = k ∧ ys.length = k ∧ (∀ x ∈ xs, fits64 x) ∧ (∀ y ∈ ys, fits64 y) ∧ Seg b p (marks xs ys) ∧ q = p + (marks xs ys).length
  | 0, p, hp, xs, ys, q => by
    rw [decXY]
    constructor
    · intro h
      injection h with h
      injection h with h1 h
      injection h with h2 h3
      subst h1 h2 h3
      exact ⟨rfl, rfl, by simp, by simp, seg_nil hp, by simp [marks]⟩
    · rintro ⟨h1, h2, _, _, _, h5⟩
      have e1 := List.eq_nil_of_length_eq_zero h1
      have e2 := List.eq_nil_of_length_eq_zero h2
      subst e1 e2
      rw [h5]
      rfl
  | k + 1, p, hp, xs, ys, q => by
    rw [decXY]
    constructor
    · intro h
      split at h
      · cases h
      · split at h
        · cases h
        · split at h
          · cases h
          · rename_i x p1 h1 _ y p2 h2 _ xs' ys' q' hr
            injection h with h
            injection h with e1 h
            injection h with e2 e3
            subst e1 e2 e3
            obtain ⟨f1, s1, r1⟩ := decS_seg.1 h1
            obtain ⟨f2, s2, r2⟩ := decS_seg.1 h2
            have hp1 : p1 ≤ 8 * b.length := r1 ▸ s1.1
            have hp2 : p2 ≤ 8 * b.length := r2 ▸ s2.1
            obtain ⟨g1, g2, g3, g4, g5, g6⟩ := (XY_seg b k p2 hp2 xs' ys' q').1 hr
            refine ⟨by simp [g1], by simp [g2], ?_, ?_, ?_, ?_⟩
            · intro z hz
              rcases List.mem_cons.1 hz with rfl | hz
              · exact f1
              · exact g3 z hz
            · intro z hz
              rcases List.mem_cons.1 hz with rfl | hz
              · exact f2
              · exact g4 z hz
            · rw [marks, seg_app, seg_app]
              refine ⟨⟨s1, r1 ▸ s2⟩, ?_⟩
              rw [List.length_append, ← Nat.add_assoc, ← r1, ← r2]
              exact g5
            · rw [marks, List.length_append, List.length_append, g6, r2, r1]
              omega
    · rintro ⟨h1, h2, h3, h4, h5, h6⟩
      obtain ⟨x, xs', rfl⟩ := List.exists_cons_of_length_eq_add_one h1
      obtain ⟨y, ys', rfl⟩ := List.exists_cons_of_length_eq_add_one h2
      rw [marks, seg_app, seg_app] at h5
      obtain ⟨⟨s1, s2⟩, s3⟩ := h5
      rw [decS_seg.2 ⟨h3 x List.mem_cons_self, s1, rfl⟩]
      dsimp only
      rw [decS_seg.2 ⟨h4 y List.mem_cons_self, s2, rfl⟩]
      dsimp only
      rw [List.length_append, ← Nat.add_assoc] at s3
      have hp2 : p + (markB x).length + (markB y).length ≤ 8 * b.length := s2.1
      have g := (XY_seg b k _ hp2 xs' ys' (p + (markB x).length + (markB y).length + (marks xs' ys').length)).2 ⟨by simpa using h1, by simpa using h2, fun z hz => h3 z (List.mem_cons_of_mem _ hz), fun z hz => h4 z (List.mem_cons_of_mem _ hz), s3, rfl⟩
      rw [g]
      dsimp only
      rw [h6, marks, List.length_append, List.length_append]
      congr 3
      omega
theorem XY_lax (b : List Int) : ∀ k p {r}, decXY decS b k p = some r → decXY decL b k p = some r
  | 0, p, r, h => h
  | k + 1, p, r, h => by
    rw [decXY] at h ⊢
    split at h
    · cases h
    · split at h
      · cases h
      · split at h
        · cases h
        · rename_i x p1 h1 _ y p2 h2 _ xs' ys' q' hr
          rw [decS_L h1]
          dsimp only
          rw [decS_L h2]
          dsimp only
          rw [XY_lax b k p2 hr]
          exact h
/-- A number in groups of seven bits stands at the head of bytes at most one way. -/
theorem varint_inj : ∀ (n m : Nat) (r s : List Int), varint n ++ r = varint m ++ s → n = m ∧ r = s := by
  intro n
  induction n using Nat.strongRecOn with
  | _ n ih =>
    intro m r s h
    by_cases hn : n < 128
    · rw [varint_small hn] at h
      by_cases hm : m < 128
      · rw [varint_small hm] at h
        simp only [List.cons_append, List.nil_append, List.cons.injEq] at h
        exact ⟨by omega, h.2⟩
      · rw [varint_big hm] at h
        simp only [List.cons_append, List.nil_append, List.cons.injEq] at h
        omega
    · rw [varint_big hn] at h
      by_cases hm : m < 128
      · rw [varint_small hm] at h
        simp only [List.cons_append, List.nil_append, List.cons.injEq] at h
        omega
      · rw [varint_big hm] at h
        simp only [List.cons_append, List.cons.injEq] at h
        obtain ⟨h1, h2⟩ := ih (n / 128) (by omega) (m / 128) r s h.2
        exact ⟨by omega, h2⟩
theorem byt_app {a b : List Int} (h : Byt (a ++ b)) : Byt b := fun x hx => h x (List.mem_append_right _ hx)
/-- Bytes whose first bits these are, 0s behind them, and no byte more. -/
theorem seg_pack {b : List Int} {L : List Bool} (hb : Byt b) (hs : Seg b 0 L) (hl : (L.length + 7) / 8 = b.length) (hc : clr b (L.length : Int) = true) (hm : L.length ≤ 262144) : b = pack L := by
  refine holds_eq ⟨⟨hb, hl.symm, hm, ?_⟩, ?_⟩
  · intro q hq hq2
    unfold clr at hc
    rw [if_neg (by omega)] at hc
    exact (of_decide_eq_true hc) q hq (by omega)
  · intro q hq
    have := hs.2 q hq
    rwa [Nat.zero_add] at this
theorem pack_seg (L : List Bool) : Seg (pack L) 0 L := by
  refine ⟨by rw [pack_length]; omega, fun j hj => ?_⟩
  rw [Nat.zero_add, pack_bt L j (by rw [pack_length]; omega)]
/-- Points out of bytes, as the program finds them. -/
theorem dec_put {n : Nat} {r : List Int} {xs ys : List Int} {q : Nat} (hb : Byt r) (hn : n ≤ 1024) (h : decXY decS r n 0 = some (xs, ys, q)) :
    fitP (zipP (frs 0 0 xs) (frs 0 0 ys)) ∧ (zipP (frs 0 0 xs) (frs 0 0 ys)).length = n ∧ ((rightB (zipP (frs 0 0 xs) (frs 0 0 ys)) = true ∧ (q + 7) / 8 = r.length ∧ clr r (q : Int) = true) ↔ putR (zipP (frs 0 0 xs) (frs 0 0 ys)) = (varint n ++ r, 0)) := by
  obtain ⟨h1, h2, h3, h4, h5, h6⟩ := (XY_seg r n 0 (Nat.zero_le _) xs ys q).1 h
  have hL : (zipP (frs 0 0 xs) (frs 0 0 ys)).length = n := by rw [zipP_length _ _ (by rw [frs_length, frs_length, h1, h2]), frs_length, h1]
  have hM : marksP 0 0 0 0 (zipP (frs 0 0 xs) (frs 0 0 ys)) = marks xs ys := by
    unfold marksP
    rw [zipP_f0 _ _ (by rw [frs_length, frs_length, h1, h2]), zipP_f1 _ _ (by rw [frs_length, frs_length, h1, h2]), secs_frs _ _ _ h3, secs_frs _ _ _ h4]
  have hml := marksP_length (zipP (frs 0 0 xs) (frs 0 0 ys)) 0 0 0 0
  rw [hM, hL] at hml
  rw [Nat.zero_add] at h6
  subst h6
  refine ⟨zipP_fit _ _ (frs_fits _ _ _) (frs_fits _ _ _), hL, ?_⟩
  constructor
  · rintro ⟨c1, c2, c3⟩
    unfold putR putB
    rw [if_neg (by omega), if_neg (by rw [c1]; decide), hL, hM, ← seg_pack hb h5 c2 c3 (by omega)]
  · intro hp
    unfold putR at hp
    rw [if_neg (by omega)] at hp
    split at hp
    · injection hp with _ hp
      exact absurd hp (by decide)
    · rename_i hr
      injection hp with hp _
      unfold putB at hp
      rw [hL, hM] at hp
      have hr2 := (varint_inj _ _ _ _ hp).2
      subst hr2
      exact ⟨by simpa using hr, by rw [pack_length], clr_pack _⟩
/-- Points that are put come out again. -/
theorem put_dec {l : List S52} {b : List Int} (hf : fitP l) (h : putR l = (b, 0)) :
    ∃ r xs ys q, b = varint l.length ++ r ∧ l.length ≤ 1024 ∧ decXY decS r l.length 0 = some (xs, ys, q) ∧ zipP (frs 0 0 xs) (frs 0 0 ys) = l := by
  unfold putR at h
  split at h
  · injection h with _ h
    exact absurd h (by decide)
  · rename_i hl
    split at h
    · injection h with _ h
      exact absurd h (by decide)
    · injection h with h _
      subst h
      refine ⟨pack (marksP 0 0 0 0 l), secs 0 0 (l.map (·.f0)), secs 0 0 (l.map (·.f1)), (marksP 0 0 0 0 l).length, rfl, by omega, ?_, ?_⟩
      · rw [XY_seg _ _ _ (Nat.zero_le _)]
        refine ⟨by rw [secs_length, List.length_map], by rw [secs_length, List.length_map], secs_fits _ _ _, secs_fits _ _ _, pack_seg _, by rw [Nat.zero_add]; rfl⟩
      · rw [frs_secs, frs_secs, zipP_map]
        · intro x hx
          obtain ⟨p, hp, rfl⟩ := List.mem_map.1 hx
          exact (hf p hp).2
        · intro x hx
          obtain ⟨p, hp, rfl⟩ := List.mem_map.1 hx
          exact (hf p hp).1
open Classical in
/-- The points that would be put so. -/
noncomputable def takeR (b : List Int) : List S52 × Int := if h : ∃ l, fitP l ∧ putR l = (b, 0) then (h.choose, 0) else ([], 6)
theorem put_inj {l m : List S52} {b : List Int} (hl : fitP l) (hm : fitP m) (h1 : putR l = (b, 0)) (h2 : putR m = (b, 0)) : l = m := by
  obtain ⟨r, xs, ys, q, e1, _, d1, rfl⟩ := put_dec hl h1
  obtain ⟨s, xs', ys', q', e2, _, d2, rfl⟩ := put_dec hm h2
  obtain ⟨e3, e4⟩ := varint_inj _ _ _ _ (e1.symm.trans e2)
  subst e4
  rw [e3, d2] at d1
  injection d1 with d1
  injection d1 with h1 d1
  injection d1 with h2 h3
  rw [h1, h2]
theorem take_put {l : List S52} {b : List Int} (hl : fitP l) (h : putR l = (b, 0)) : takeR b = (l, 0) := by
  have hex : ∃ l, fitP l ∧ putR l = (b, 0) := ⟨l, hl, h⟩
  unfold takeR
  rw [dif_pos hex, put_inj hex.choose_spec.1 hl hex.choose_spec.2 h]
theorem take_no {b : List Int} (h : ∀ l, fitP l → putR l ≠ (b, 0)) : takeR b = ([], 6) := by
  unfold takeR
  rw [dif_neg]
  rintro ⟨l, h1, h2⟩
  exact h l h1 h2
theorem take_ok {b : List Int} (h : (takeR b).2 = 0) : fitP (takeR b).1 ∧ putR (takeR b).1 = (b, 0) := by
  unfold takeR at h ⊢
  split
  · rename_i hex
    exact hex.choose_spec
  · rename_i hex
    rw [dif_neg hex] at h
    exact absurd h (by decide)
theorem take_two (b : List Int) : ((takeR b).2 = 0 ∨ (takeR b).2 = 6 ∧ (takeR b).1 = []) := by
  unfold takeR
  split
  · exact .inl rfl
  · exact .inr ⟨rfl, rfl⟩
/-- No number stands at the head. -/
theorem take_none {b : List Int} (h : ∀ n r, n < 2 ^ 64 → b ≠ varint n ++ r) : takeR b = ([], 6) := take_no fun l hf hp => by
  obtain ⟨r, _, _, _, e, hl, _⟩ := put_dec hf hp
  exact h l.length r (by omega) e
theorem take_long {n : Nat} {r : List Int} (h : n > 1024) : takeR (varint n ++ r) = ([], 6) := take_no fun l hf hp => by
  obtain ⟨s, _, _, _, e, hl, _⟩ := put_dec hf hp
  have := (varint_inj _ _ _ _ e).1
  omega
theorem take_lax {n : Nat} {r : List Int} (h : decXY decL r n 0 = none) : takeR (varint n ++ r) = ([], 6) := take_no fun l hf hp => by
  obtain ⟨s, xs, ys, q, e, hl, hd, _⟩ := put_dec hf hp
  obtain ⟨rfl, rfl⟩ := varint_inj _ _ _ _ e
  rw [XY_lax _ _ _ hd] at h
  cases h
theorem take_strict {n : Nat} {r : List Int} (h : decXY decS r n 0 = none) : takeR (varint n ++ r) = ([], 6) := take_no fun l hf hp => by
  obtain ⟨s, xs, ys, q, e, hl, hd, _⟩ := put_dec hf hp
  obtain ⟨rfl, rfl⟩ := varint_inj _ _ _ _ e
  rw [hd] at h
  cases h
/-- The program's answer. -/
theorem take_prog {n : Nat} {r : List Int} {xs ys : List Int} {q : Nat} (hb : Byt r) (hn : n ≤ 1024) (h : decXY decS r n 0 = some (xs, ys, q)) :
    takeR (varint n ++ r) = if rightB (zipP (frs 0 0 xs) (frs 0 0 ys)) = true ∧ (q + 7) / 8 = r.length ∧ clr r (q : Int) = true then (zipP (frs 0 0 xs) (frs 0 0 ys), 0) else ([], 6) := by
  obtain ⟨hf, hl, hiff⟩ := dec_put hb hn h
  split
  · rename_i hc
    exact take_put hf (hiff.1 hc)
  · rename_i hc
    refine take_no fun l hfl hp => hc (hiff.2 ?_)
    obtain ⟨s, xs', ys', q', e, _, hd, e2⟩ := put_dec hfl hp
    obtain ⟨rfl, rfl⟩ := varint_inj _ _ _ _ e
    rw [h] at hd
    injection hd with hd
    injection hd with h1 hd
    injection hd with h2 h3
    subst h1 h2
    rw [e2]
    exact hp
/-- The reference's answer. -/
theorem take_ref {n : Nat} {r : List Int} {xs ys : List Int} {q : Nat} (h : decXY decL r n 0 = some (xs, ys, q)) :
    takeR (varint n ++ r) = if putR (zipP (frs 0 0 xs) (frs 0 0 ys)) = (varint n ++ r, 0) then (zipP (frs 0 0 xs) (frs 0 0 ys), 0) else ([], 6) := by
  split
  · rename_i hc
    exact take_put (zipP_fit _ _ (frs_fits _ _ _) (frs_fits _ _ _)) hc
  · rename_i hc
    refine take_no fun l hfl hp => hc ?_
    obtain ⟨s, xs', ys', q', e, _, hd, e2⟩ := put_dec hfl hp
    obtain ⟨rfl, rfl⟩ := varint_inj _ _ _ _ e
    rw [XY_lax _ _ _ hd] at h
    injection h with hd
    injection hd with h1 hd
    injection hd with h2 h3
    subst h1 h2
    rw [e2]
    exact hp
end Go.Proofs.Ythkpnnbjcendcaa.Pure
