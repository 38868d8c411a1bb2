/- seal.Sum, walked. -/
import Derived.Test.YthkpnnbjcendcaaPcrQc
set_option linter.unusedVariables false
set_option linter.unusedSimpArgs false
open Go.RowKit Go.Proofs.Ythkpnnbjcendcaa.X Go.Proofs.Ythkpnnbjcendcaa.Pl Go.Proofs.Ythkpnnbjcendcaa.Sp Go.Proofs.Ythkpnnbjcendcaa.Pure Go.Proofs.YthkpnnbjcendcaaW.PrintWords Go.Proofs.YthkpnnbjcendcaaW.PrintLast Go.Proofs.YthkpnnbjcendcaaW.PrintMore
namespace Go.Proofs.Ythkpnnbjcendcaa.Sc
set_option maxHeartbeats 8000000 in
set_option maxRecDepth 100000 in
theorem sum_calls (A0 : Option Addr) (c0 : Nat) (b : List Int) (w : World) (hr0 : Kd.C (Kd.int .u8) w A0 b.length b) (hby : Byt b) (hl : b.length < 4611686018427387904) :
    Calls Try.prog 107 #[.slice A0 b.length c0] w fun e w' => e = .returned (.int .u32 (sumN b : Int)) ∧ Below w.heap.size w w' := by
  have HB := Aside0.mk (Below.refl w.heap.size w)
  have HR := Aside0.mk hr0
  have HBY := Aside0.mk hby
  have HL := Aside0.mk hl
  clear hr0 hby hl
  go_enter Try.func107, Try.ntmps107
  go_wp2
  go_loopg [3, 5, 6, 9, 18] b.length (fun kq v3 _ _ v9 _ w' => ∃ i s : Nat, v3 = .int .u32 (s : Int) ∧ v9 = .int .i64 (i : Int) ∧ Aside0 (kq + i = b.length ∧ s = crcL 4294967295 (b.take i)) ∧ Aside0 (Below w.heap.size w w'))
  case atStart => exact ⟨0, 4294967295, rfl, rfl, ⟨by omega, by rw [List.take_zero, crcL_nil]⟩, HB⟩
  case round =>
    clear HB
    obtain ⟨i, s, rfl, rfl, HI, HB⟩ := hrel
    by_cases hlt : i < b.length
    · obtain ⟨k1, rfl⟩ : ∃ q, gk = q + 1 := ⟨gk - 1, by have := HI.out.1; omega⟩
      have c1b : decide ((i : Int) < (b.length : Int)) = true := decide_eq_true (by omega)
      have c1n : decide (i < b.length) = true := decide_eq_true hlt
      have hnx : wrap64 ((i : Int) + 1) = ((i + 1 : Nat) : Int) := by have := HL.out; rw [w64 (by omega) (by omega)]; simp
      have hby := HBY.out (b.getD i 0) (by rw [getD_lt _ _ _ hlt]; exact List.getElem_mem _)
      obtain ⟨x, hx⟩ : ∃ x : Nat, b.getD i 0 = (x : Int) := ⟨(b.getD i 0).toNat, by omega⟩
      have hx256 : x < 256 := by omega
      obtain ⟨ad, e1, hx0⟩ := Kd.at_int HR.out (i : Int) (by omega) (by omega)
      cases e1
      rw [Int.toNat_natCast, rd_get, hx] at hx0
      replace hx0 := (HB.out.cell (World.block_lt_of_cell? w _ hx0)).trans hx0
      have hs := crcL_lt (b := b.take i) (fun y hy => HBY.out y (List.mem_of_mem_take hy)) (s := 4294967295) (by omega)
      rw [← HI.out.2] at hs
      obtain ⟨z, hz⟩ : ∃ z, z = x * 16777216 := ⟨_, rfl⟩
      obtain ⟨y, hy⟩ : ∃ y, y = s ^^^ z := ⟨_, rfl⟩
      have f0 : IntKind.u32.wrap (x : Int) = (x : Int) := by rw [IntKind.wrap_u32']; omega
      have f1 : IntKind.u32.wrap ((x : Int) * 2 ^ 24) = (z : Int) := by rw [IntKind.wrap_u32']; omega
      have f1b : IntKind.u32.wrap ((x : Int) * 16777216) = (z : Int) := by rw [IntKind.wrap_u32']; omega
      have f1c : (x : Int) * 16777216 % 4294967296 = (z : Int) := by omega
      have f1d : (x : Int) % 4294967296 = (x : Int) := by omega
      have f2 : Go.bits .xor .u32 (s : Int) (z : Int) = (y : Int) := by rw [u32_xor_nat _ _ hs (by omega), hy]
      have hbi : b[i] = (x : Int) := by rw [← hx, getD_lt _ _ _ hlt]
      have HY := Aside0.mk (show crcK 8 y = crcL 4294967295 (b.take (i + 1)) by
        rw [crcL_take_succ _ _ _ hlt, ← HI.out.2, hbi]
        unfold crcB
        rw [Int.toNat_natCast, ← hz, ← hy])
      have HYL := Aside0.mk (show y < 4294967296 from hy ▸ Nat.xor_lt_two_pow (n := 32) hs (by omega))
      have HX := Aside0.mk hnx
      have HLT := Aside0.mk hlt
      have c4 := eq_true hlt
      have c5 := eq_true (show (i : Int) < (b.length : Int) by omega)
      have c6 := eq_true (show 0 ≤ (i : Int) by omega)
      clear hnx hlt hby hx hx256 hs hz hy hbi
      go_wp2
      go_loopg [3, 6, 18] 8 (fun kq v3 _ v18 w' => ∃ k t : Nat, v3 = .int .u32 (t : Int) ∧ v18 = .int .i64 (k : Int) ∧ Aside0 (kq + k = 8 ∧ t = crcK k y) ∧ Aside0 (Below w.heap.size w w'))
      case atStart => exact ⟨0, y, rfl, rfl, ⟨by omega, (crcK_zero y).symm⟩, HB⟩
      case round =>
        clear HB
        obtain ⟨k, t, rfl, rfl, HK, HB⟩ := hrel
        by_cases hk : k < 8
        · obtain ⟨k2, rfl⟩ : ∃ q, gk = q + 1 := ⟨gk - 1, by have := HK.out.1; omega⟩
          have d1b : decide ((k : Int) < 8) = true := decide_eq_true (by omega)
          have d1n : decide (k < 8) = true := decide_eq_true hk
          have hnk : wrap64 ((k : Int) + 1) = ((k + 1 : Nat) : Int) := by rw [w64 (by omega) (by omega)]; simp
          have htl := crcK_lt k HYL.out
          rw [← HK.out.2] at htl
          obtain ⟨a, ha⟩ : ∃ a, a = t / 2147483648 := ⟨_, rfl⟩
          obtain ⟨t2, ht2⟩ : ∃ a, a = 2 * t % 4294967296 := ⟨_, rfl⟩
          obtain ⟨pa, hpa⟩ : ∃ p, p = 79764919 * a % 4294967296 := ⟨_, rfl⟩
          obtain ⟨t', ht'⟩ : ∃ x, x = crc1 t := ⟨_, rfl⟩
          have g1 : (t : Int) / 2 ^ 31 = (a : Int) := by omega
          have g1b : (t : Int) / 2147483648 = (a : Int) := by omega
          have g2 : IntKind.u32.wrap ((t : Int) * 2 ^ 1) = (t2 : Int) := by rw [IntKind.wrap_u32']; omega
          have g2b : IntKind.u32.wrap ((t : Int) * 2) = (t2 : Int) := by rw [IntKind.wrap_u32']; omega
          have g3 : IntKind.u32.wrap (79764919 * (a : Int)) = (pa : Int) := by rw [IntKind.wrap_u32']; omega
          have g4 : Go.bits .xor .u32 (t2 : Int) (pa : Int) = (t' : Int) := by
            have := crc_prog htl
            rw [← ha, ← hpa, ← ht2, ← ht'] at this
            exact this
          have HN := Aside0.mk (show t' = crcK (k + 1) y by rw [crcK_succ, ← HK.out.2, ht'])
          have HXK := Aside0.mk hnk
          clear hnk hk htl ha ht2 hpa ht'
          go_wp2
          go_roundg k2
          case measure => omega
          case rel => exact ⟨k + 1, t', rfl, (by first | rfl | rw [HXK.out]), ⟨by have := HK.out.1; omega, HN.out⟩, HB⟩
        · have d1b : decide ((k : Int) < 8) = false := decide_eq_false (by omega)
          have d1n : decide (k < 8) = false := decide_eq_false hk
          have hk8 : k = 8 := by have := HK.out.1; omega
          have HN := Aside0.mk (show t = crcL 4294967295 (b.take (i + 1)) by rw [HK.out.2, hk8]; exact HY.out)
          clear hk hk8
          go_wp2
          go_roundg k1
          case measure => omega
          case rel => exact ⟨i + 1, t, rfl, (by first | rfl | rw [HX.out]), ⟨by have := HI.out.1; omega, HN.out⟩, HB⟩
    · have c1b : decide ((i : Int) < (b.length : Int)) = false := decide_eq_false (by omega)
      have c1n : decide (i < b.length) = false := decide_eq_false hlt
      have hs := crcL_lt (b := b.take i) (fun y hy => HBY.out y (List.mem_of_mem_take hy)) (s := 4294967295) (by omega)
      rw [← HI.out.2] at hs
      obtain ⟨r, hr⟩ : ∃ r, r = s ^^^ 4294967295 := ⟨_, rfl⟩
      have HE := Aside0.mk (show sumN b = r by
        unfold sumN
        rw [hr, HI.out.2, List.take_of_length_le (by omega)])
      have f2 : Go.bits .xor .u32 (s : Int) 4294967295 = (r : Int) := by
        have := u32_xor_nat s 4294967295 hs (by omega)
        rw [hr]
        exact this
      have f3 : Go.bits .xor .u32 4294967295 (s : Int) = (r : Int) := by
        have := u32_xor_nat 4294967295 s (by omega) hs
        rw [hr, Nat.xor_comm]
        exact this
      have f5 : Go.bits .xor .u32 IntKind.u32.max (s : Int) = (r : Int) := by rw [show IntKind.u32.max = (4294967295 : Int) from rfl]; exact f3
      clear hlt hs hr
      go_wp2
      go_ret
      exact ⟨by rw [HE.out]; try rfl, HB.out⟩
end Go.Proofs.Ythkpnnbjcendcaa.Sc

