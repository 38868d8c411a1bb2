/- The reference's bits in memory: its Put and its Bytes, told by the list of bits. -/
import Derived.Test.YthkpnnbjcendcaaBc
import Derived.Test.YthkpnnbjcendcaaX9
set_option linter.unusedVariables false
set_option linter.unusedSimpArgs false
open Go.RowKit Go.Proofs.Ythkpnnbjcendcaa.X Go.Proofs.Ythkpnnbjcendcaa.Pl Go.Proofs.Ythkpnnbjcendcaa.Sp Go.Proofs.Ythkpnnbjcendcaa.Pure Go.Proofs.YthkpnnbjcendcaaW.PrintWords Go.Proofs.YthkpnnbjcendcaaW.PrintLast Go.Proofs.YthkpnnbjcendcaaW.PrintMore
namespace Go.Proofs.Ythkpnnbjcendcaa.Sc
/-- Is a number below 2^width? -/
theorem fits_loop (w : Nat) (hw : w ≤ 64) (d : Nat) : ∀ (i n : Nat), w - i = d → i ≤ w → n < 2 ^ 64 → Ev (fun k => marigraphref02_fits.l0 k (n : Int) (w : Int) (i : Int)) (decide (n < 2 ^ d)) := by
  induction d with
  | zero =>
    intro i n hd hi hn
    refine ev_succ (fun k => by rw [marigraphref02_fits.l0]) (ev_neg (by omega) (ev_eq (Ev.now _) ?_))
    rcases Nat.eq_zero_or_pos n with rfl | h
    · simp
    · have h1 : ¬ n < 2 ^ 0 := by simp; omega
      rw [decide_eq_false h1, beq_eq_false_iff_ne]
      omega
  | succ d ih =>
    intro i n hd hi hn
    have h1 : wrap64 ((i : Int) + 1) = ((i + 1 : Nat) : Int) := by rw [w64 (by omega) (by omega)]; simp
    refine ev_succ (fun k => by rw [marigraphref02_fits.l0]) (ev_pos (by omega) ?_)
    have h2 := ih (i + 1) (n / 2) (by omega) (by omega)
    rw [h1, tdiv_pos (by omega), show (n : Int) / 2 = ((n / 2 : Nat) : Int) by omega]
    have h3 : IntKind.u64.wrap ((n / 2 : Nat) : Int) = ((n / 2 : Nat) : Int) := w_u64 (by omega) (by exact_mod_cast Nat.lt_of_le_of_lt (Nat.div_le_self n 2) hn)
    rw [h3]
    refine ev_eq (h2 (Nat.lt_of_le_of_lt (Nat.div_le_self n 2) hn)) ?_
    have : n / 2 < 2 ^ d ↔ n < 2 ^ (d + 1) := by rw [Nat.pow_succ, Nat.div_lt_iff_lt_mul (by decide)]
    simp only [this]
theorem fits_calls (n w : Int) (W : World) (hn : 0 ≤ n ∧ n < 2 ^ 64) (hw : 0 ≤ w ∧ w ≤ 64) :
    Calls Try.prog 61 #[.int .u64 n, .int .i64 w] W fun e W' => e = .returned (.bool (decide (n < 2 ^ w.toNat))) ∧ Below W.heap.size W W' := by
  obtain ⟨N, rfl⟩ : ∃ N : Nat, n = (N : Int) := ⟨n.toNat, by omega⟩
  obtain ⟨M, rfl⟩ : ∃ M : Nat, w = (M : Int) := ⟨w.toNat, by omega⟩
  have hN : N < 2 ^ 64 := by have := hn.2; exact_mod_cast this
  obtain ⟨K, hK⟩ := fits_loop M (by omega) M 0 N (by omega) (by omega) hN
  refine (marigraphref02_fits.calls K (N : Int) (M : Int) _ W (hK K (Nat.le_refl _))).mono ?_
  rintro e W' ⟨rfl, hd⟩
  have : ((N : Int) < 2 ^ (M : Int).toNat) ↔ N < 2 ^ M := by rw [Int.toNat_natCast]; exact_mod_cast Iff.rfl
  exact ⟨by simp only [this], hd.below⟩

/-- The block g and a row are a list of bits (the reference's). -/
def refR (base g : Nat) (L : List Bool) (F : Nat → Prop) : Res := ⟨F, fun w => ∃ v, w.heap[g]? = some (.cells #[v] 30 (0, 0)) ∧ Kd.R Kd.bool 4 w base (fun k => k ≠ g ∧ F k) v L ∧ F g⟩
theorem refR_open {base g : Nat} {L : List Bool} {F : Nat → Prop} {w : World} {rs : List Res} (h : Sep base w (refR base g L F :: rs)) : ∃ v F1, Sep base w (row F1 Kd.bool 4 base v L :: box g #[v] 30 :: rs) := by
  obtain ⟨v, hb, hr, hF⟩ := h.now
  refine ⟨v, fun k => k ≠ g ∧ F k, ⟨fun k hk => h.own.lo k hk.2, fun k hk => h.own.hi k hk.2, fun w' hw => Kd.R_move hr hw⟩, ?_, Own.box (h.own.lo g hF) hb, ?_, h.drop⟩
  · intro q hq k hk hk'
    rcases List.mem_cons.1 hq with rfl | hq
    · exact hk.1 hk'
    · exact h.apart q hq k hk.2 hk'
  · intro q hq k hk hk'
    have hk : k = g := hk
    exact h.apart q hq k (hk ▸ hF) hk'
theorem refR_shut {base g : Nat} {L : List Bool} {F1 : Nat → Prop} {v : Value} {w : World} {rs : List Res} (h : Sep base w (row F1 Kd.bool 4 base v L :: box g #[v] 30 :: rs)) : Sep base w (refR base g L (fun k => k = g ∨ F1 k) :: rs) := by
  refine ⟨⟨fun k hk => hk.elim (fun e => e ▸ h.drop.ge) (h.own.lo k), fun k hk => hk.elim (fun e => e ▸ h.drop.own.hi g rfl) (h.own.hi k), fun w' hw => ?_⟩, ?_, h.drop.drop⟩
  · refine ⟨v, (hw g (.inl rfl)).trans h.drop.blk, ?_, .inl rfl⟩
    exact Kd.R_mono (Kd.R_move h.R (fun k hk => hw k (.inr hk))) (fun k hk => ⟨fun e => h.apart _ List.mem_cons_self k hk e, .inr hk⟩)
  · intro q hq k hk hk'
    rcases hk with rfl | hk
    · exact h.drop.apart q hq k rfl hk'
    · exact h.apart q (List.mem_cons_of_mem _ hq) k hk hk'
theorem info4 : (Try.prog.info? 4).map (fun i => (i.zero, i.size, i.bytes)) = some (some (.bool false), 1, 1) := by kernel_rfl
theorem nb_take (n w j : Nat) (hj : j < w) : (nb n w).take (j + 1) = (nb n w).take j ++ [decide (n / 2 ^ (w - 1 - j) % 2 = 1)] := by
  rw [List.take_succ_eq_append_getElem (by rw [nb_length]; exact hj)]
  simp [nb]
theorem bit_eq {n : Int} (h : 0 ≤ n) (e : Nat) : (Int.tmod (n / 2 ^ e) 2 == 1) = decide (n.toNat / 2 ^ e % 2 = 1) := by
  obtain ⟨N, rfl⟩ : ∃ N : Nat, n = (N : Int) := ⟨n.toNat, by omega⟩
  have h1 : (N : Int) / 2 ^ e = ((N / 2 ^ e : Nat) : Int) := by rw [Int.natCast_ediv]; simp
  rw [h1, tmod_pos (Int.natCast_nonneg _), Int.toNat_natCast]
  generalize N / 2 ^ e = x
  rw [Bool.eq_iff_iff]
  simp
  omega
set_option maxHeartbeats 8000000 in
set_option maxRecDepth 100000 in
theorem refput_calls (g : Nat) (F : Nat → Prop) (L : List Bool) (n wd : Int) (w0 w : World) (hB : Below w0.heap.size w0 w) (hO : Own w0.heap.size w (refR w0.heap.size g L F)) (hn : 0 ≤ n ∧ n < 2 ^ 64) (hw : -9223372036854775808 ≤ wd ∧ wd ≤ 9223372036854775807) (hm : L.length ≤ 262144) :
    Calls Try.prog 23 #[.pointer (some ⟨g, 0, none⟩), .int .u64 n, .int .i64 wd] w fun e w' => e = .returned (.int .i64 (putC L.length n wd)) ∧ Turned w0 w w' F (refR w0.heap.size g (putL L n wd)) := by
  have HB0 := Aside0.mk hB
  have HB := Aside0.mk hB
  obtain ⟨v, F1, hs⟩ := refR_open (Sep.start hO)
  have HS := Aside0.mk hs
  have HN := Aside0.mk hn
  have HD := Aside0.mk hw
  have HM := Aside0.mk hm
  obtain ⟨A1, c1, e_⟩ := Kd.R_slice (Sep.R HS.out)
  subst e_
  have hc0 := Sep.c10 HS.out.p2
  have hf0 := Sep.free HS.out.p2 0
  have stay : ∀ c : Int, c ≠ 0 → putC L.length n wd = c → ∀ w' : World, Sep w0.heap.size w' [row F1 Kd.bool 4 w0.heap.size (.slice A1 L.length c1) L, box g #[.slice A1 L.length c1] 30, frameR w0.heap.size w (refR w0.heap.size g L F).foot] → Below w0.heap.size w0 w' → Ending.returned (.int .i64 c) = Ending.returned (.int .i64 (putC L.length n wd)) ∧ Turned w0 w w' F (refR w0.heap.size g (putL L n wd)) := by
    intro c h0 hc w' hs hb
    have : putL L n wd = L := by unfold putL; rw [if_neg (hc ▸ h0)]
    rw [this, hc]
    exact ⟨rfl, Turned.of_sep (refR_shut hs) hB hb⟩
  have HST := Aside0.mk stay
  clear hB hO hs hn hw hm stay
  by_cases h1 : wd < 0
  · have h1b : decide (wd < 0) = true := decide_eq_true h1
    have hc : putC L.length n wd = 20 := by unfold putC; rw [if_pos (Or.inl h1)]
    have HC := Aside0.mk hc
    clear hc h1
    go_enter Try.func23, Try.ntmps23
    go_wp2
    go_ret
    exact HST.out 20 (by decide) HC.out _ (by repeat (first | (with_reducible first | exact HS.out | apply sep_alloc | apply sep_drewN | apply sep_drew) | exact HS.out)) (by repeat (first | (with_reducible first | exact HB.out | apply below_alloc | apply pw_below_drewN | apply below_drew1) | exact HB.out))
  · have h1b : decide (wd < 0) = false := decide_eq_false h1
    by_cases h2 : wd > 64
    · have h2b : decide (64 < wd) = true := decide_eq_true h2
      have hc : putC L.length n wd = 20 := by unfold putC; rw [if_pos (Or.inr h2)]
      have HC := Aside0.mk hc
      clear hc h1 h2
      go_enter Try.func23, Try.ntmps23
      go_wp2
      go_ret
      exact HST.out 20 (by decide) HC.out _ (by repeat (first | (with_reducible first | exact HS.out | apply sep_alloc | apply sep_drewN | apply sep_drew) | exact HS.out)) (by repeat (first | (with_reducible first | exact HB.out | apply below_alloc | apply pw_below_drewN | apply below_drew1) | exact HB.out))
    · have h2b : decide (64 < wd) = false := decide_eq_false h2
      have HW := Aside0.mk (show 0 ≤ wd ∧ wd ≤ 64 by omega)
      clear h1 h2
      by_cases h3 : n < 2 ^ wd.toNat
      · by_cases h4 : (L.length : Int) + wd > 262144
        · have hc : putC L.length n wd = 3 := by unfold putC; rw [if_neg (by have := HW.out; omega), if_neg (by simpa using h3), if_pos h4]
          have HC := Aside0.mk hc
          have HF := Aside0.mk h3
          have h4b : decide (262144 < wrap64 ((L.length : Int) + wd)) = true := decide_eq_true (by have := HM.out; have := HW.out; rw [w64 (by omega) (by omega)]; exact h4)
          clear hc h3 h4
          go_enter Try.func23, Try.ntmps23
          go_wp2_with (first
            | ((with_reducible refine gate_dst (N := 16) rfl ?_); (try (refine gate_guard (by rfl) ?_; dsimp only)); refine goesL_ (some 16) rfl rfl Try.func61 (by kernel_rfl) rfl #[.int .u64 n, .int .i64 wd] rfl (by (try simp only [List.map_toArray, List.map_cons, List.map_nil]); first | done | rfl) ?_; (with_reducible refine (fits_calls n wd _ HN.out HW.out).mono ?_); rintro e w1 ⟨rfl, hb⟩; refine ⟨_, rfl, ?_⟩; rw [decide_eq_true HF.out]; have n0_ := Aside0.mk (below_step (by repeat (first | (with_reducible first | exact HB.out | apply below_alloc | apply pw_below_drewN | apply below_drew1) | exact HB.out)) hb); have n1_ := Aside0.mk (Sep.below (by repeat (first | (with_reducible first | exact HS.out | apply sep_alloc | apply sep_drewN | apply sep_drew) | exact HS.out)) hb); clear HB HS; have HB := n0_; have HS := n1_; clear n0_ n1_ hb; clear hc0 hf0; have hc0 := Sep.c10 HS.out.p2))
          go_ret
          exact HST.out 3 (by decide) HC.out _ HS.out HB.out
        · have hc : putC L.length n wd = 0 := by unfold putC; rw [if_neg (by have := HW.out; omega), if_neg (by simpa using h3), if_neg h4]
          have HPL := Aside0.mk (show putL L n wd = L ++ nb n.toNat wd.toNat by unfold putL; rw [if_pos hc])
          have HC := Aside0.mk hc
          have HF := Aside0.mk h3
          have HL := Aside0.mk (show (L.length : Int) + wd ≤ 262144 by omega)
          have h4b : decide (262144 < wrap64 ((L.length : Int) + wd)) = false := decide_eq_false (by have := HM.out; have := HW.out; rw [w64 (by omega) (by omega)]; exact h4)
          have hw1 : wrap64 (wd - 1) = wd - 1 := w64 (by have := HW.out; omega) (by have := HW.out; omega)
          have HW1 := Aside0.mk hw1
          clear hc h3 h4 hw1
          go_enter Try.func23, Try.ntmps23
          go_wp2_with (first
            | ((with_reducible refine gate_dst (N := 16) rfl ?_); (try (refine gate_guard (by rfl) ?_; dsimp only)); refine goesL_ (some 16) rfl rfl Try.func61 (by kernel_rfl) rfl #[.int .u64 n, .int .i64 wd] rfl (by (try simp only [List.map_toArray, List.map_cons, List.map_nil]); first | done | rfl) ?_; (with_reducible refine (fits_calls n wd _ HN.out HW.out).mono ?_); rintro e w1 ⟨rfl, hb⟩; refine ⟨_, rfl, ?_⟩; rw [decide_eq_true HF.out]; have n0_ := Aside0.mk (below_step (by repeat (first | (with_reducible first | exact HB.out | apply below_alloc | apply pw_below_drewN | apply below_drew1) | exact HB.out)) hb); have n1_ := Aside0.mk (Sep.below (by repeat (first | (with_reducible first | exact HS.out | apply sep_alloc | apply sep_drewN | apply sep_drew) | exact HS.out)) hb); clear HB HS; have HB := n0_; have HS := n1_; clear n0_ n1_ hb; clear hc0 hf0; have hc0 := Sep.c10 HS.out.p2))
          clear hc0
          go_loopg [7] wd.toNat (fun kq v7 w' => ∃ (i : Int) (j : Nat) (v : Value) (F1 : Nat → Prop) (M : List Bool), v7 = .int .i64 i ∧ Aside0 (i = wd - 1 - j ∧ j ≤ wd.toNat ∧ kq + j = wd.toNat ∧ M = L ++ (nb n.toNat wd.toNat).take j) ∧ Aside0 (Sep w0.heap.size w' [row F1 Kd.bool 4 w0.heap.size v M, box g #[v] 30, frameR w0.heap.size w (refR w0.heap.size g L F).foot]) ∧ Aside0 (Below w0.heap.size w0 w'))
          case atStart => exact ⟨wd - 1, 0, _, F1, L, by rw [HW1.out], ⟨by omega, by omega, by omega, by simp⟩, HS, HB⟩
          case round =>
            clear HS HB h4b h2b h1b
            obtain ⟨i, j, v, F1, M, rfl, HI, HS, HB⟩ := hrel
            obtain ⟨A1, c1, e_⟩ := Kd.R_slice (Sep.R HS.out)
            subst e_
            by_cases hi : 0 ≤ i
            · obtain ⟨k1, rfl⟩ : ∃ m, gk = m + 1 := ⟨gk - 1, by have := HI.out; omega⟩
              have hib : decide (0 ≤ i) = true := decide_eq_true hi
              have hi6 : i ≤ 64 := by have := HI.out; have := HW.out; omega
              obtain ⟨b, hbt⟩ : ∃ b : Bool, (Int.tmod (n / 2 ^ i.toNat) 2 == 1) = b := ⟨_, rfl⟩
              have hn0 := HN.out.1
              have HLM := Aside0.mk (show M.length ≤ 262144 by rw [HI.out.2.2.2, List.length_append, List.length_take, nb_length]; have := HL.out; have := HI.out; have := HW.out; omega)
              have hnx : wrap64 (i - 1) = i - 1 := w64 (by omega) (by omega)
              have HX := Aside0.mk hnx
              have HBT := Aside0.mk hbt
              clear hnx
              go_wp2
              refine start_ (n := 15) (S := fun w' => w'.cell? ⟨g, 0, none⟩ = some (.slice A1 M.length c1)) (ds := [14]) #[false, false, false, false, false, false, false, false, false, false, false, false, false, false, false] (by kernel_rfl) rfl rfl (Sep.c10 (sep_drew HS.out.p2)) (fun hHeld => ?_)
              have n0_ := Aside0.mk (below_drew HB.out)
              have n1_ := Aside0.mk (sep_drew HS.out)
              clear HB HS
              have HB := n0_
              have HS := n1_
              clear n0_ n1_
              generalize (World.drew wr) = wd_ at HB HS hHeld ⊢
              refine pure_ (i := 0) (N := some 32) (v := ?_) (a' := ?_) #[true, false, false, false, false, false, false, false, false, false, false, false, false, false, false] rfl rfl (by kernel_rfl) (fun _ _ _ h => h) (Or.inl ⟨by rfl, ?_⟩) ?_ ?_
              rotate_left
              · intro w'
                go_simp
                with_reducible rfl
              rotate_left
              · simp only [Act.put, List.setIfInBounds_toArray, List.set_cons_zero, List.set_cons_succ, i64_w, i32_w]
                rfl
              refine pure_ (i := 1) (N := some 33) (v := ?_) (a' := ?_) #[true, true, false, false, false, false, false, false, false, false, false, false, false, false, false] rfl rfl (by kernel_rfl) (fun _ _ _ h => h) (Or.inl ⟨by rfl, ?_⟩) ?_ ?_
              rotate_left
              · intro w'
                go_simp
                with_reducible rfl
              rotate_left
              · simp only [Act.put, List.setIfInBounds_toArray, List.set_cons_zero, List.set_cons_succ, i64_w, i32_w]
                rfl
              refine pure_ (i := 2) (N := some 34) (v := ?_) (a' := ?_) #[true, true, true, false, false, false, false, false, false, false, false, false, false, false, false] rfl rfl (by kernel_rfl) (fun _ _ _ h => h) (Or.inl ⟨by rfl, ?_⟩) ?_ ?_
              rotate_left
              · intro w'
                go_simp
                with_reducible rfl
              rotate_left
              · simp only [Act.put, List.setIfInBounds_toArray, List.set_cons_zero, List.set_cons_succ, i64_w, i32_w]
                rfl
              refine pure_ (i := 3) (N := some 35) (v := ?_) (a' := ?_) #[true, true, true, true, false, false, false, false, false, false, false, false, false, false, false] rfl rfl (by kernel_rfl) (fun _ _ _ h => h) (Or.inl ⟨by rfl, ?_⟩) ?_ ?_
              rotate_left
              · intro w'
                go_simp
                with_reducible rfl
              rotate_left
              · simp only [Act.put, List.setIfInBounds_toArray, List.set_cons_zero, List.set_cons_succ, i64_w, i32_w]
                rfl
              refine pure_ (i := 5) (N := some 37) (v := ?_) (a' := ?_) #[true, true, true, true, false, true, false, false, false, false, false, false, false, false, false] rfl rfl (by kernel_rfl) (fun _ _ _ h => h) (Or.inl ⟨by rfl, ?_⟩) ?_ ?_
              rotate_left
              · intro w'
                go_simp
                with_reducible rfl
              rotate_left
              · simp only [Act.put, List.setIfInBounds_toArray, List.set_cons_zero, List.set_cons_succ, i64_w, i32_w]
                rfl
              refine pure_ (i := 6) (N := some 38) (v := ?_) (a' := ?_) #[true, true, true, true, false, true, true, false, false, false, false, false, false, false, false] rfl rfl (by kernel_rfl) (fun _ _ _ h => h) (Or.inl ⟨by rfl, ?_⟩) ?_ ?_
              rotate_left
              · intro w'
                go_simp
                with_reducible rfl
              rotate_left
              · simp only [Act.put, List.setIfInBounds_toArray, List.set_cons_zero, List.set_cons_succ, i64_w, i32_w]
                rfl
              refine pure_ (i := 7) (N := some 39) (v := ?_) (a' := ?_) #[true, true, true, true, false, true, true, true, false, false, false, false, false, false, false] rfl rfl (by kernel_rfl) (fun _ _ _ h => h) (Or.inl ⟨by rfl, ?_⟩) ?_ ?_
              rotate_left
              · intro w'
                go_simp
                with_reducible rfl
              rotate_left
              · simp only [Act.put, List.setIfInBounds_toArray, List.set_cons_zero, List.set_cons_succ, i64_w, i32_w]
                rfl
              refine pure_ (i := 8) (N := some 40) (v := ?_) (a' := ?_) #[true, true, true, true, false, true, true, true, true, false, false, false, false, false, false] rfl rfl (by kernel_rfl) (fun _ _ _ h => h) (Or.inl ⟨by rfl, ?_⟩) ?_ ?_
              rotate_left
              · intro w'
                go_simp
                with_reducible rfl
              rotate_left
              · simp only [Act.put, List.setIfInBounds_toArray, List.set_cons_zero, List.set_cons_succ, i64_w, i32_w]
                rfl
              refine pure_ (i := 9) (N := some 41) (v := ?_) (a' := ?_) #[true, true, true, true, false, true, true, true, true, true, false, false, false, false, false] rfl rfl (by kernel_rfl) (fun _ _ _ h => h) (Or.inl ⟨by rfl, ?_⟩) ?_ ?_
              rotate_left
              · intro w'
                go_simp
                with_reducible rfl
              rotate_left
              · simp only [Act.put, List.setIfInBounds_toArray, List.set_cons_zero, List.set_cons_succ, i64_w, i32_w]
                rfl
              refine take_ (i := 4) (N := some 36) (v := ?_) (a' := ?_) #[true, true, true, true, true, true, true, true, true, true, false, false, false, false, false] rfl rfl (by kernel_rfl) (fun _ _ _ h => h) (Or.inl ⟨by rfl, ?_⟩) hHeld ?_ ?_
              rotate_left
              · intro w' s0
                go_simp
                with_reducible rfl
              rotate_left
              · simp only [Act.put, List.setIfInBounds_toArray, List.set_cons_zero, List.set_cons_succ, i64_w, i32_w]
                rfl
              refine one_ (i := 10) (N := some 42) #[true, true, true, true, true, true, true, true, true, true, true, false, false, false, false] rfl rfl (by kernel_rfl) (by decide) (fun K hK => ?_)
              refine value_ (w1 := ?_) (v := ?_) (by rfl) rfl ?_ ?_
              rotate_left 2
              · go_simp
                constructor
                · rfl
                · rfl
              refine hK.out _ _ (Sep.c10 (sep_alloc HS.out.p2 _)) (fun hHeld => ?_)
              clear hK K
              refine norm_ (a' := ?_) ?_ ?_
              rotate_left
              · show Act.put _ (some 42) _ = _
                simp only [Act.put, List.setIfInBounds_toArray, List.set_cons_zero, List.set_cons_succ, i64_w, i32_w]
                rfl
              refine one_ (i := 11) (N := some 43) #[true, true, true, true, true, true, true, true, true, true, true, true, false, false, false] rfl rfl (by kernel_rfl) (by decide) (fun K hK => ?_)
              refine wp_append_step Kd.bool (w0 := w0) ?hw_ (.tmp 36) (.tmp 42) 28 4 (.bool false) 1 ?ho_ ?ht_ ?hi_ ?hz_ ?h0_ ?hb_ (b) [.bool b] (HS.out) ?hs_ ?hx_ ?hp_ ?HB_ ?hl_ ?_; (case hw_ => rfl); (case ho_ => rfl); (case ht_ => exact Try.underlying28); (case hi_ => exact info4); (case hz_ => rfl); (case h0_ => decide); (case hb_ => omega); (case hs_ => rfl); (case hx_ => rfl); (case hp_ => exact rfl); (case HB_ => exact HB.out); (case hl_ => have := HLM.out; omega); intro v_ w_ F_ hs_ hb_; obtain ⟨M1, hy_⟩ : ∃ y_, y_ = M ++ [b] := ⟨_, rfl⟩; rw [← hy_] at hs_; have HM1 := Aside0.mk hy_; clear hy_ HB HS hHeld; have HB := Aside0.mk hb_; have HS := Aside0.mk hs_; clear hb_ hs_; obtain ⟨A_, c_, e_⟩ := Kd.R_slice (Sep.R HS.out); subst e_
              have hc0 := Sep.c10 HS.out.p2
              have hf0 := Sep.free HS.out.p2 0
              refine hK.out _ _ (Sep.c10 HS.out.p2) (fun hHeld => ?_)
              clear hK K
              refine norm_ (a' := ?_) ?_ ?_
              rotate_left
              · show Act.put _ (some 43) _ = _
                simp only [Act.put, List.setIfInBounds_toArray, List.set_cons_zero, List.set_cons_succ, i64_w, i32_w]
                rfl
              refine pure_ (i := 12) (N := some 44) (v := ?_) (a' := ?_) #[true, true, true, true, true, true, true, true, true, true, true, true, true, false, false] rfl rfl (by kernel_rfl) (fun _ _ _ h => h) (Or.inl ⟨by rfl, ?_⟩) ?_ ?_
              rotate_left
              · intro w'
                go_simp
                with_reducible rfl
              rotate_left
              · simp only [Act.put, List.setIfInBounds_toArray, List.set_cons_zero, List.set_cons_succ, i64_w, i32_w]
                rfl
              refine pure_ (i := 13) (N := some 45) (v := ?_) (a' := ?_) #[true, true, true, true, true, true, true, true, true, true, true, true, true, true, false] rfl rfl (by kernel_rfl) (fun _ _ _ h => h) (Or.inl ⟨by rfl, ?_⟩) ?_ ?_
              rotate_left
              · intro w'
                go_simp
                with_reducible rfl
              rotate_left
              · simp only [Act.put, List.setIfInBounds_toArray, List.set_cons_zero, List.set_cons_succ, i64_w, i32_w]
                rfl
              refine last_ (i := 14) (N := none) #[true, true, true, true, true, true, true, true, true, true, true, true, true, true, true] rfl rfl (by kernel_rfl) (by decide) (fun K hK => ?_)
              refine skip_ (w1 := ?_) (by rfl) rfl ?_ ?_
              rotate_left
              · go_simp
                rfl
              refine hK.out _ _ ?_
              clear hK K
              refine done_ (by kernel_rfl) ?_
              go_wp2
              go_roundg k1
              case measure => omega
              case rel => exact ⟨i - 1, j + 1, _, F_, M1, (by first | rfl | rw [HX.out]), ⟨by have := HI.out; omega, by have := HI.out; have := HW.out; omega, by have := HI.out; omega, by
                have h1 := HI.out
                have h2 := HW.out
                rw [HM1.out, HI.out.2.2.2, ← HBT.out, bit_eq HN.out.1, nb_take _ _ _ (by omega), show i.toNat = wd.toNat - 1 - j by omega, List.append_assoc]⟩, ⟨(HS.out.p2.s10 _).p2⟩, ⟨below_set HB.out HS.out.p2.ge⟩⟩
            · have hib : decide (0 ≤ i) = false := decide_eq_false hi
              have hj : j = wd.toNat := by have := HI.out; have := HW.out; omega
              have HJ := Aside0.mk (show M = putL L n wd by rw [HPL.out, HI.out.2.2.2, hj, List.take_of_length_le (by rw [nb_length]; omega)])
              clear hi hj
              go_wp2
              go_ret
              refine ⟨by rw [HC.out]; rfl, ?_⟩
              have hs := HS.out
              rw [HJ.out] at hs
              exact Turned.of_sep (refR_shut hs) HB0.out HB.out
      · have hc : putC L.length n wd = 1 := by unfold putC; rw [if_neg (by have := HW.out; omega), if_pos (by simpa using h3)]
        have HC := Aside0.mk hc
        have HF := Aside0.mk h3
        clear hc h3
        go_enter Try.func23, Try.ntmps23
        go_wp2_with (first
          | ((with_reducible refine gate_dst (N := 16) rfl ?_); (try (refine gate_guard (by rfl) ?_; dsimp only)); refine goesL_ (some 16) rfl rfl Try.func61 (by kernel_rfl) rfl #[.int .u64 n, .int .i64 wd] rfl (by (try simp only [List.map_toArray, List.map_cons, List.map_nil]); first | done | rfl) ?_; (with_reducible refine (fits_calls n wd _ HN.out HW.out).mono ?_); rintro e w1 ⟨rfl, hb⟩; refine ⟨_, rfl, ?_⟩; rw [decide_eq_false HF.out]; have n0_ := Aside0.mk (below_step (by repeat (first | (with_reducible first | exact HB.out | apply below_alloc | apply pw_below_drewN | apply below_drew1) | exact HB.out)) hb); have n1_ := Aside0.mk (Sep.below (by repeat (first | (with_reducible first | exact HS.out | apply sep_alloc | apply sep_drewN | apply sep_drew) | exact HS.out)) hb); clear HB HS; have HB := n0_; have HS := n1_; clear n0_ n1_ hb; clear hc0 hf0; have hc0 := Sep.c10 HS.out.p2))
        go_ret
        exact HST.out 1 (by decide) HC.out _ HS.out HB.out
end Go.Proofs.Ythkpnnbjcendcaa.Sc
