/- The reference's Right of chunks, walked. -/
import Derived.Test.YthkpnnbjcendcaaGcQc
import Derived.BigQuiet
import Derived.Deep.QuietTactic
set_option linter.unusedVariables false
set_option linter.unusedSimpArgs false
open Go.RowKit Go.Proofs.Ythkpnnbjcendcaa.X Go.Proofs.Ythkpnnbjcendcaa.Pl Go.Proofs.Ythkpnnbjcendcaa.Sp Go.Proofs.Ythkpnnbjcendcaa.Pure Go.Proofs.YthkpnnbjcendcaaW.PrintWords Go.Proofs.YthkpnnbjcendcaaW.PrintLast Go.Proofs.YthkpnnbjcendcaaW.PrintMore
namespace Go.Proofs.Ythkpnnbjcendcaa.Pure
/-- Chunks whose ids rise from behind p on, each with points that rise. -/
def okCs : Int → List S109 → Bool
  | _, [] => true
  | p, c :: l => decide (p < c.f0) && decide (c.f0 < 4096) && decide (1 ≤ c.f1.length) && decide (c.f1.length ≤ 1024) && rightB c.f1 && okCs c.f0 l
/-- Whether chunks make a block. -/
def rightC (l : List S109) : Bool := okCs (-1) l && decide (1 ≤ l.length) && decide (l.length ≤ 200)
theorem rd109_at (l : List S109) (i : Nat) (h : i < l.length) : rd_T109 l (i : Int) = l[i] := by
  unfold rd_T109; rw [Int.toNat_natCast]; exact getD_lt l i _ h
theorem okCs_step {p : Int} {l : List S109} {i : Nat} (h : i < l.length) : okCs p (l.drop i) = (decide (p < l[i].f0) && decide (l[i].f0 < 4096) && decide (1 ≤ l[i].f1.length) && decide (l[i].f1.length ≤ 1024) && rightB l[i].f1 && okCs l[i].f0 (l.drop (i + 1))) := by
  rw [List.drop_eq_getElem_cons h, okCs]
end Go.Proofs.Ythkpnnbjcendcaa.Pure
namespace Go.Proofs.Ythkpnnbjcendcaa.Sc
theorem refright_q (A0 : Option Addr) (c0 n : Nat) (l0 : List S52) (b : Bool) (w : World) (hn : l0.length = n) (hb : rightB l0 = b) (hr0 : Kd.C k52 w A0 n l0) (hc0 : n ≤ c0) (hl : n < 4611686018427387904) :
    Calls Try.prog 34 #[.slice A0 n c0] w fun e w' => e = .returned (.bool b) ∧ ∃ m, w' = w.drewN m := by
  subst hn hb
  obtain ⟨K, hK⟩ := ref_right_ev l0 hl
  refine (marigraphref04_Right.calls K A0 c0 l0 _ w hr0 hc0 (hK K (Nat.le_refl _))).mono ?_
  rintro e w' ⟨rfl, hd⟩
  exact ⟨rfl, hd.out⟩
set_option maxHeartbeats 16000000 in
set_option maxRecDepth 100000 in
theorem rright9_calls (A0 : Option Addr) (c0 : Nat) (l0 : List S109) (w : World) (hr0 : Kd.C k109 w A0 l0.length l0) (hl : l0.length < 1000000000) (hE : ∀ c ∈ l0, c.f1.length < 1000000000) :
    Calls Try.prog 56 #[.slice A0 l0.length c0] w fun e w' => e = .returned (.bool (rightC l0)) ∧ Below w.heap.size w w' := by
  have HB := Aside0.mk (Below.refl w.heap.size w)
  have HR := Aside0.mk hr0
  have HL := Aside0.mk hl
  have HE := Aside0.mk hE
  clear hr0 hl hE
  go_enter Try.func56, Try.ntmps56
  go_wp2
  go_loopg [3, 4] l0.length (fun kq v3 _ w' => ∃ i : Nat, v3 = .int .i64 (i : Int) ∧ Aside0 (kq + i = l0.length ∧ (0 < i → 0 ≤ (rd_T109 l0 ((i - 1 : Nat) : Int)).f0) ∧ okCs (-1) l0 = okCs (if i = 0 then -1 else (rd_T109 l0 ((i - 1 : Nat) : Int)).f0) (l0.drop i)) ∧ Aside0 (Below w.heap.size w w'))
  case atStart => exact ⟨0, rfl, ⟨by omega, fun h => absurd h (Nat.lt_irrefl 0), by simp⟩, HB⟩
  case round =>
    clear HB
    obtain ⟨i, rfl, HI, HB⟩ := hrel
    by_cases hlt : i < l0.length
    · obtain ⟨k1, rfl⟩ : ∃ q, gk = q + 1 := ⟨gk - 1, by have := HI.out.1; omega⟩
      have c1b : decide ((i : Int) < (l0.length : Int)) = true := decide_eq_true (by omega)
      have c1n : decide (i < l0.length) = true := decide_eq_true hlt
      have hnx : wrap64 ((i : Int) + 1) = ((i + 1 : Nat) : Int) := by have := HL.out; rw [w64 (by omega) (by omega)]; simp
      obtain ⟨ad, A1, c1, e1, hx0, hx1, hl1, hC1⟩ := at_T109 HR.out (i : Int) (by omega) (by omega)
      cases e1
      rw [Int.toNat_natCast] at hx0 hx1
      replace hx0 := (HB.out.cell (World.block_lt_of_cell? w _ hx0)).trans hx0
      replace hx1 := (HB.out.cell (World.block_lt_of_cell? w _ hx1)).trans hx1
      have hE1 := HE.out l0[i] (List.getElem_mem hlt)
      have hrd := rd109_at l0 i hlt
      rw [hrd] at hx0 hx1 hl1 hC1
      obtain ⟨x, hx⟩ : ∃ x, x = l0[i].f0 := ⟨_, rfl⟩
      obtain ⟨ps, hps⟩ : ∃ x, x = l0[i].f1 := ⟨_, rfl⟩
      obtain ⟨n, hn⟩ : ∃ n, n = ps.length := ⟨_, rfl⟩
      obtain ⟨rb, hrb⟩ : ∃ b, rightB ps = b := ⟨_, rfl⟩
      have hst := okCs_step (p := if i = 0 then -1 else (rd_T109 l0 ((i - 1 : Nat) : Int)).f0) hlt
      rw [← hx, ← hps, hrb, ← hn] at hst
      rw [← hx] at hx0
      rw [← hps, ← hn] at hx1 hl1 hC1 hE1
      have hpv : 0 < i → ∃ y : Int, y = (rd_T109 l0 ((i - 1 : Nat) : Int)).f0 ∧ 0 ≤ y ∧ wr.cell? (ad.add ((i - 1) * 2)) = some (.int .i64 y) ∧ wrap64 ((i : Int) - 1) = ((i - 1 : Nat) : Int) ∧ (((i - 1 : Nat) : Int) < (l0.length : Int)) = True ∧ (i - 1 < l0.length) = True := fun h0 => by
        obtain ⟨ad2, A2, c2, e2, hy0, _, _, _⟩ := at_T109 HR.out ((i - 1 : Nat) : Int) (by omega) (by omega)
        injection e2 with e2
        subst e2
        rw [Int.toNat_natCast] at hy0
        exact ⟨_, rfl, HI.out.2.1 h0, (HB.out.cell (World.block_lt_of_cell? w _ hy0)).trans hy0, by have := HL.out; rw [w64 (by omega) (by omega)]; omega, eq_true (by omega), eq_true (by omega)⟩
      have HX := Aside0.mk hnx
      have HRD := Aside0.mk (show (rd_T109 l0 ((i + 1 - 1 : Nat) : Int)).f0 = x by rw [Nat.add_sub_cancel, hrd, hx])
      have HC1 := Aside0.mk hC1
      have HL1 := Aside0.mk hl1
      have HRB := Aside0.mk hrb
      have HN := Aside0.mk hn.symm
      have HNL := Aside0.mk (show n < 4611686018427387904 by omega)
      have c4 := eq_true hlt
      have c5 := eq_true (show (i : Int) < (l0.length : Int) by omega)
      have c6 := eq_true (show 0 ≤ (i : Int) by omega)
      -- the answer, as it hangs on what is found
      obtain ⟨y, hy⟩ : ∃ y : Int, y = if i = 0 then -1 else (rd_T109 l0 ((i - 1 : Nat) : Int)).f0 := ⟨_, rfl⟩
      have hyy := HI.out.2.2
      rw [← hy] at hst hyy
      rw [hst] at hyy
      have hyge : -1 ≤ y := by
        rw [hy]
        split
        · omega
        · have := HI.out.2.1 (by omega); omega
      have hgo : y < x → x < 4096 → 1 ≤ n → n ≤ 1024 → rb = true → 0 ≤ x ∧ okCs (-1) l0 = okCs x (l0.drop (i + 1)) := fun h1 h2 h3 h4 h5 => by
        refine ⟨by omega, ?_⟩
        rw [hyy, decide_eq_true h1, decide_eq_true h2, decide_eq_true h3, decide_eq_true h4, h5]
        simp
      have hno : ¬ (y < x ∧ x < 4096 ∧ 1 ≤ n ∧ n ≤ 1024 ∧ rb = true) → rightC l0 = false := fun h => by
        have : okCs (-1) l0 = false := by
          rw [hyy]
          by_cases h1 : y < x
          · by_cases h2 : x < 4096
            · by_cases h3 : 1 ≤ n
              · by_cases h4 : n ≤ 1024
                · have h5 : rb = false := by
                    cases rb
                    · rfl
                    · exact absurd ⟨h1, h2, h3, h4, rfl⟩ h
                  rw [h5]; simp
                · rw [decide_eq_false h4]; simp
              · rw [decide_eq_false h3]; simp
            · rw [decide_eq_false h2]; simp
          · rw [decide_eq_false h1]; simp
        unfold rightC
        rw [this]; rfl
      have HGO := Aside0.mk hgo
      have HNO := Aside0.mk hno
      clear hnx hrd hx hps hn hrb hst hyy hgo hno hC1 hl1 hE1
      by_cases g1 : x < 0
      · have t1 : decide (x < 0) = true := decide_eq_true g1
        clear hpv
        go_wp2
        repeat (go_quiet (fail); try go_wp2)
        go_ret
        exact ⟨by rw [HNO.out (by rintro ⟨h, _⟩; omega)]; try rfl, (by repeat (first | (with_reducible first | exact HB.out | apply below_alloc | apply pw_below_drewN | apply below_drew1) | exact HB.out))⟩
      · have t1 : decide (x < 0) = false := decide_eq_false g1
        by_cases g2 : 4096 ≤ x
        · have t2 : decide (4096 ≤ x) = true := decide_eq_true g2
          clear hpv
          go_wp2
          repeat (go_quiet (fail); try go_wp2)
          go_ret
          exact ⟨by rw [HNO.out (by rintro ⟨_, h, _⟩; omega)]; try rfl, (by repeat (first | (with_reducible first | exact HB.out | apply below_alloc | apply pw_below_drewN | apply below_drew1) | exact HB.out))⟩
        · have t2 : decide (4096 ≤ x) = false := decide_eq_false g2
          by_cases g3 : 0 < i
          · obtain ⟨y', hy', hy0, hyc, hyw, k7, k8⟩ := hpv g3
            have hyy : y = y' := by rw [hy, if_neg (by omega), hy']
            clear hpv hy hy'
            have t3 : decide ((0 : Int) < (i : Int)) = true := decide_eq_true (by omega)
            have t3n : decide (0 < i) = true := decide_eq_true g3
            have k9 := eq_true (show 0 ≤ ((i - 1 : Nat) : Int) by omega)
            obtain ⟨i', hi'⟩ : ∃ i', i' = i - 1 := ⟨_, rfl⟩
            rw [← hi'] at hyc hyw k7 k8 k9
            clear hi'
            by_cases g4 : x ≤ y'
            · have t4 : decide (x ≤ y') = true := decide_eq_true g4
              go_wp2
              repeat (go_quiet (fail); try go_wp2)
              go_ret
              exact ⟨by rw [HNO.out (by rintro ⟨h, _⟩; omega)]; try rfl, (by repeat (first | (with_reducible first | exact HB.out | apply below_alloc | apply pw_below_drewN | apply below_drew1) | exact HB.out))⟩
            · have t4 : decide (x ≤ y') = false := decide_eq_false g4
              by_cases g5 : n < 1
              · have t5 : decide ((n : Int) < 1) = true := decide_eq_true (by omega)
                have t5n : decide (n < 1) = true := decide_eq_true g5
                go_wp2
                repeat (go_quiet (fail); try go_wp2)
                go_ret
                exact ⟨by rw [HNO.out (by rintro ⟨_, _, h, _⟩; omega)]; try rfl, (by repeat (first | (with_reducible first | exact HB.out | apply below_alloc | apply pw_below_drewN | apply below_drew1) | exact HB.out))⟩
              · have t5 : decide ((n : Int) < 1) = false := decide_eq_false (by omega)
                have t5n : decide (n < 1) = false := decide_eq_false g5
                by_cases g6 : 1024 < n
                · have t6 : decide ((1024 : Int) < (n : Int)) = true := decide_eq_true (by omega)
                  have t6n : decide (1024 < n) = true := decide_eq_true g6
                  go_wp2
                  repeat (go_quiet (fail); try go_wp2)
                  go_ret
                  exact ⟨by rw [HNO.out (by rintro ⟨_, _, _, h, _⟩; omega)]; try rfl, (by repeat (first | (with_reducible first | exact HB.out | apply below_alloc | apply pw_below_drewN | apply below_drew1) | exact HB.out))⟩
                · have t6 : decide ((1024 : Int) < (n : Int)) = false := decide_eq_false (by omega)
                  have t6n : decide (1024 < n) = false := decide_eq_false g6
                  cases rb
                  · go_wp2
                    repeat (go_quiet (first | (go_at_call 34; exact Calls.quiet_of (refright_q A1 c1 n ps _ _ HN.out HRB.out (Kd.C_below HC1.out (by repeat (first | (with_reducible first | exact HB.out | apply below_alloc | apply pw_below_drewN | apply below_drew1) | exact HB.out))) HL1.out HNL.out))); try go_wp2)
                    go_ret
                    exact ⟨by rw [HNO.out (by rintro ⟨_, _, _, _, h⟩; cases h)]; try rfl, (by repeat (first | (with_reducible first | exact HB.out | apply below_alloc | apply pw_below_drewN | apply below_drew1) | exact HB.out))⟩
                  · have HG := Aside0.mk (HGO.out (by omega) (by omega) (by omega) (by omega) rfl)
                    go_wp2
                    repeat (go_quiet (first | (go_at_call 34; exact Calls.quiet_of (refright_q A1 c1 n ps _ _ HN.out HRB.out (Kd.C_below HC1.out (by repeat (first | (with_reducible first | exact HB.out | apply below_alloc | apply pw_below_drewN | apply below_drew1) | exact HB.out))) HL1.out HNL.out))); try go_wp2)
                    go_roundg k1
                    case measure => omega
                    case rel => exact ⟨i + 1, (by first | rfl | rw [HX.out]), ⟨by have := HI.out.1; omega, fun _ => by rw [HRD.out]; exact HG.out.1, by rw [if_neg (by omega), HRD.out]; exact HG.out.2⟩, ⟨(by repeat (first | (with_reducible first | exact HB.out | apply below_alloc | apply pw_below_drewN | apply below_drew1) | exact HB.out))⟩⟩
          · have t3 : decide ((0 : Int) < (i : Int)) = false := decide_eq_false (by omega)
            have t3n : decide (0 < i) = false := decide_eq_false g3
            have hyy : y = -1 := by rw [hy, if_pos (by omega)]
            clear hpv hy
            by_cases g5 : n < 1
            · have t5 : decide ((n : Int) < 1) = true := decide_eq_true (by omega)
              have t5n : decide (n < 1) = true := decide_eq_true g5
              go_wp2
              repeat (go_quiet (fail); try go_wp2)
              go_ret
              exact ⟨by rw [HNO.out (by rintro ⟨_, _, h, _⟩; omega)]; try rfl, (by repeat (first | (with_reducible first | exact HB.out | apply below_alloc | apply pw_below_drewN | apply below_drew1) | exact HB.out))⟩
            · have t5 : decide ((n : Int) < 1) = false := decide_eq_false (by omega)
              have t5n : decide (n < 1) = false := decide_eq_false g5
              by_cases g6 : 1024 < n
              · have t6 : decide ((1024 : Int) < (n : Int)) = true := decide_eq_true (by omega)
                have t6n : decide (1024 < n) = true := decide_eq_true g6
                go_wp2
                repeat (go_quiet (fail); try go_wp2)
                go_ret
                exact ⟨by rw [HNO.out (by rintro ⟨_, _, _, h, _⟩; omega)]; try rfl, (by repeat (first | (with_reducible first | exact HB.out | apply below_alloc | apply pw_below_drewN | apply below_drew1) | exact HB.out))⟩
              · have t6 : decide ((1024 : Int) < (n : Int)) = false := decide_eq_false (by omega)
                have t6n : decide (1024 < n) = false := decide_eq_false g6
                cases rb
                · go_wp2
                  repeat (go_quiet (first | (go_at_call 34; exact Calls.quiet_of (refright_q A1 c1 n ps _ _ HN.out HRB.out (Kd.C_below HC1.out (by repeat (first | (with_reducible first | exact HB.out | apply below_alloc | apply pw_below_drewN | apply below_drew1) | exact HB.out))) HL1.out HNL.out))); try go_wp2)
                  go_ret
                  exact ⟨by rw [HNO.out (by rintro ⟨_, _, _, _, h⟩; cases h)]; try rfl, (by repeat (first | (with_reducible first | exact HB.out | apply below_alloc | apply pw_below_drewN | apply below_drew1) | exact HB.out))⟩
                · have HG := Aside0.mk (HGO.out (by omega) (by omega) (by omega) (by omega) rfl)
                  go_wp2
                  repeat (go_quiet (first | (go_at_call 34; exact Calls.quiet_of (refright_q A1 c1 n ps _ _ HN.out HRB.out (Kd.C_below HC1.out (by repeat (first | (with_reducible first | exact HB.out | apply below_alloc | apply pw_below_drewN | apply below_drew1) | exact HB.out))) HL1.out HNL.out))); try go_wp2)
                  go_roundg k1
                  case measure => omega
                  case rel => exact ⟨i + 1, (by first | rfl | rw [HX.out]), ⟨by have := HI.out.1; omega, fun _ => by rw [HRD.out]; exact HG.out.1, by rw [if_neg (by omega), HRD.out]; exact HG.out.2⟩, ⟨(by repeat (first | (with_reducible first | exact HB.out | apply below_alloc | apply pw_below_drewN | apply below_drew1) | exact HB.out))⟩⟩
    · have c1b : decide ((i : Int) < (l0.length : Int)) = false := decide_eq_false (by omega)
      have c1n : decide (i < l0.length) = false := decide_eq_false hlt
      have hok : okCs (-1) l0 = true := by
        rw [HI.out.2.2, List.drop_eq_nil_of_le (by omega)]; rfl
      have hR : rightC l0 = (decide (1 ≤ l0.length) && decide (l0.length ≤ 200)) := by unfold rightC; rw [hok]; rfl
      have hcs : (decide ((1 : Int) ≤ (l0.length : Int)) = true ∧ decide (1 ≤ l0.length) = true ∧ (decide ((l0.length : Int) ≤ 200) = rightC l0) ∧ decide (l0.length ≤ 200) = rightC l0) ∨ (decide ((1 : Int) ≤ (l0.length : Int)) = false ∧ decide (1 ≤ l0.length) = false ∧ rightC l0 = false) := by
        by_cases h1 : 1 ≤ l0.length
        · refine .inl ⟨decide_eq_true (by omega), decide_eq_true h1, ?_, ?_⟩
          · rw [hR, decide_eq_true h1, Bool.true_and]
            by_cases h2 : l0.length ≤ 200
            · rw [decide_eq_true h2, decide_eq_true (by omega)]
            · rw [decide_eq_false h2, decide_eq_false (by omega)]
          · rw [hR, decide_eq_true h1, Bool.true_and]
        · exact .inr ⟨decide_eq_false (by omega), decide_eq_false h1, by rw [hR, decide_eq_false h1]; rfl⟩
      obtain ⟨R, hRR⟩ : ∃ R, R = rightC l0 := ⟨_, rfl⟩
      rw [← hRR] at hcs
      have HRR := Aside0.mk hRR
      clear hlt hok hR hRR
      rcases hcs with ⟨h1, h2, h3, h4⟩ | ⟨h1, h2, rfl⟩
      · go_wp2
        go_ret
        exact ⟨by rw [← HRR.out]; first | rfl | simp, HB.out⟩
      · go_wp2
        go_ret
        exact ⟨by rw [← HRR.out]; first | rfl | simp, HB.out⟩
end Go.Proofs.Ythkpnnbjcendcaa.Sc

