/- Bits in memory, and what their calls make of them: the contracts, told by the list of bits. -/
import Derived.Test.YthkpnnbjcendcaaSp
import Derived.Test.YthkpnnbjcendcaaBt
import Derived.Test.YthkpnnbjcendcaaBsw
set_option linter.unusedVariables false
namespace Go.Proofs.Ythkpnnbjcendcaa.Sc
open Go.RowKit Go.Proofs.Ythkpnnbjcendcaa.X Go.Proofs.Ythkpnnbjcendcaa.Pl Go.Proofs.Ythkpnnbjcendcaa.Sp Go.Proofs.Ythkpnnbjcendcaa.Pure Go.Proofs.YthkpnnbjcendcaaW.PrintWords Go.Proofs.YthkpnnbjcendcaaW.PrintLast Go.Proofs.YthkpnnbjcendcaaW.PrintMore

/-- The block g and a row are a list of bits (bits.Bits). -/
def bitsR (base g : Nat) (L : List Bool) (F : Nat → Prop) : Res := ⟨F, fun w => ∃ u bs, w.heap[g]? = some (.cells #[u, .int .i64 (L.length : Int)] 26 (0, 0)) ∧ Kd.R (Kd.int .u8) 5 w base (fun k => k ≠ g ∧ F k) u bs ∧ Holds bs L ∧ F g⟩
theorem bitsR_mk {base g : Nat} {L : List Bool} {u : Value} {bs : List Int} {ok : Nat → Prop} {w : World} (hg : base ≤ g) (hb : w.heap[g]? = some (.cells #[u, .int .i64 (L.length : Int)] 26 (0, 0)))
    (hr : Kd.R (Kd.int .u8) 5 w base ok u bs) (hok : ∀ k, ok k → k ≠ g) (hh : Holds bs L) : Own base w (bitsR base g L (fun k => k = g ∨ (ok k ∧ base ≤ k ∧ k < w.heap.size))) := by
  refine ⟨fun k hk => ?_, fun k hk => ?_, fun w' hw => ?_⟩
  · rcases hk with rfl | hk
    · exact hg
    · exact hk.2.1
  · rcases hk with rfl | hk
    · exact blk_lt hb
    · exact hk.2.2
  · refine ⟨u, bs, (hw g (.inl rfl)).trans hb, ?_, hh, .inl rfl⟩
    have h1 : Kd.R (Kd.int .u8) 5 w base (fun k => ok k ∧ base ≤ k ∧ k < w.heap.size) u bs := Kd.R_mono (Kd.R_bound hr) (fun k hk => ⟨hk.1, hk.2.1, hk.2.2.1⟩)
    exact Kd.R_mono (Kd.R_move h1 (fun k hk => hw k (.inr hk))) (fun k hk => ⟨hok k hk.1, .inr hk⟩)
theorem Sep.newbits {base g : Nat} {w w' : World} {rs : List Res} (h : Sep base w rs) (hb : Below w.heap.size w w') (hg : w.heap.size ≤ g) (hB : base ≤ w.heap.size) (hx : w'.heap[g]? = some (.cells #[.slice none 0 0, .int .i64 0] 26 (0, 0))) :
    ∃ F, Sep base w' (bitsR base g [] F :: rs) := by
  refine ⟨_, h.new hb (bitsR_mk (L := []) (ok := fun _ => False) (Nat.le_trans hB hg) hx (Kd.R_nil _ _ _ _ _) (fun _ hk => hk.elim) holds_nil) ?_⟩
  rintro k (rfl | ⟨h1, _⟩)
  · exact hg
  · exact h1.elim
theorem put_calls (g : Nat) (F : Nat → Prop) (L : List Bool) (n wd : Int) (w0 w : World) (hB : Below w0.heap.size w0 w) (hO : Own w0.heap.size w (bitsR w0.heap.size g L F)) (hn : 0 ≤ n ∧ n < 2 ^ 64) (hw : -9223372036854775808 ≤ wd ∧ wd ≤ 9223372036854775807) :
    Calls Try.prog 22 #[.pointer (some ⟨g, 0, none⟩), .int .u64 n, .int .i64 wd] w fun e w' => e = .returned (.int .i64 (putC L.length n wd)) ∧ Turned w0 w w' F (bitsR w0.heap.size g (putL L n wd)) := by
  obtain ⟨u, bs, hb, hr, hh, hF⟩ := hO.now
  obtain ⟨b', ⟨K, hev⟩, hh'⟩ := put_evL hh n wd hn hw
  refine (bits_Bits_Put.calls K g u bs L.length n wd _ b' _ w0 w hB (hO.lo g hF) hb (Kd.R_mono hr (fun k hk => hk.1)) (hev K (Nat.le_refl _))).mono ?_
  rintro e w' ⟨v1, rfl, hb', hr', hB', hK⟩
  have hu : ∀ k, some k = u.ownBlock → F k := fun k hk => (hr.1 k hk.symm).2
  refine ⟨rfl, Turned.mk_ (bitsR_mk (hO.lo g hF) hb' hr' (fun k hk => hk.1) hh') ?_ hB' (Stay.of_kept (hK.mono (fun k hk => hk.elim (fun e => e ▸ hF) (hu k))))⟩
  rintro k (rfl | ⟨⟨_, h | h⟩, _⟩)
  · exact .inl hF
  · exact .inl (hu k h)
  · exact .inr h
theorem len_calls (base g : Nat) (F : Nat → Prop) (L : List Bool) (w : World) (h : Own base w (bitsR base g L F)) :
    Calls Try.prog 24 #[.pointer (some ⟨g, 0, none⟩)] w fun e w' => e = .returned (.int .i64 (L.length : Int)) ∧ Below w.heap.size w w' := by
  obtain ⟨u, bs, hb, hr, hh, hF⟩ := h.now
  exact bits_Bits_Len.calls g u _ w hb
theorem clone_f (b : List Int) (h : b.length < 140737488355328) : slices_Clone_byte_byte.f b = some b := by
  unfold slices_Clone_byte_byte.f
  simp [h]
theorem bytes_calls (base g : Nat) (F : Nat → Prop) (L : List Bool) (w : World) (h : Own base w (bitsR base g L F)) :
    Calls Try.prog 25 #[.pointer (some ⟨g, 0, none⟩)] w fun e w' => ∃ v, e = .returned v ∧ Kd.R (Kd.int .u8) 5 w' w.heap.size (fun _ => True) v (pack L) ∧ Below w.heap.size w w' := by
  obtain ⟨u, bs, hb, hr, hh, hF⟩ := h.now
  have hl := hh.1.len
  have hm := hh.1.max
  rw [← holds_eq hh]
  exact bits_Bits_Bytes.calls g base u bs _ bs w _ hb hr (clone_f bs (by omega))
theorem at_calls (A : Option Addr) (c : Nat) (b : List Int) (p wd : Int) (w : World) (hr : Kd.C (Kd.int .u8) w A b.length b) (hc : b.length ≤ c) (hb : Byt b) (hl : b.length < 1000000) (hw : -9223372036854775808 ≤ wd ∧ wd ≤ 9223372036854775807) :
    Calls Try.prog 27 #[.slice A b.length c, .int .i64 p, .int .i64 wd] w fun e w' => e = .returned (.tuple #[.int .u64 (atR b p wd).1, .int .i64 (atR b p wd).2]) ∧ Below w.heap.size w w' := by
  obtain ⟨K, hev⟩ := at_ev hb hl p wd hw
  exact bits_At.calls K A c b p wd _ _ w hr hc (hev K (Nat.le_refl _))
theorem at_calls_eq (A : Option Addr) (c : Nat) (b : List Int) (p wd r1 r2 : Int) (w : World) (hr : Kd.C (Kd.int .u8) w A b.length b) (hc : b.length ≤ c) (hb : Byt b) (hl : b.length < 1000000) (hw : -9223372036854775808 ≤ wd ∧ wd ≤ 9223372036854775807) (h : atR b p wd = (r1, r2)) :
    Calls Try.prog 27 #[.slice A b.length c, .int .i64 p, .int .i64 wd] w fun e w' => e = .returned (.tuple #[.int .u64 r1, .int .i64 r2]) ∧ Below w.heap.size w w' := by
  have := at_calls A c b p wd w hr hc hb hl hw
  rw [h] at this
  exact this
end Go.Proofs.Ythkpnnbjcendcaa.Sc
