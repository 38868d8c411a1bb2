/- A scope whose run goes back to one label: as a loop whose measure is a number that the proof hands on. -/
import Derived.ScopeJumps
import Derived.WalkMore
import Derived.Deep.LoopGhost
namespace Go.Proofs.Ythkpnnbjcendcaa.Go_
open Go

theorem jump_mono {l : Nat} {J J' : Act → World → Prop} {Q : Exit → Act → World → Prop} (h : ∀ a w, J a w → J' a w) (e : Exit) (a : Act) (w : World) (hq : Exit.jump l J Q e a w) : Exit.jump l J' Q e a w := by
  cases e with
  | goto l' => exact ⟨hq.1, h _ _ hq.2⟩
  | _ => exact hq

theorem wp_scope_ghost_k {P : Program} {Q : Exit → Act → World → Prop} {a : Act} {w : World} {c rest : Code} (l : Nat) (I : Nat → Act → World → Prop) (hf : findLabel c l = some (Code.skip.seq rest))
    (pass : ∀ n a w, I n a w → ∀ (J : Nat → Act → World → Prop) (K : Act → World → Prop), (∀ k a' w', I k a' w' → J k a' w') → (∀ a' w', Handed J n a' w' → K a' w') → rest.wp P (Exit.jump l K Q) a w)
    (first : ∀ F : Act → World → Prop, (∀ n a' w', I n a' w' → rest.wp P (Exit.jump l F Q) a' w') → c.wp P (Exit.jump l F Q) a w) : (Code.scope c).wp P Q a w := by
  have hp : ∀ n a w, I n a w → rest.wp P (Exit.jump l (fun a' w' => Handed I n a' w') Q) a w := fun n a w h => pass n a w h I _ (fun _ _ _ q => q) fun _ _ q => q
  have hs : ∀ {Q' : Exit → Act → World → Prop} {a w}, rest.wp P Q' a w → (Code.skip.seq rest).wp P Q' a w := fun h => wp_seq (wp_skip h)
  refine wp_scope_jumps l (fun a w => ∃ n, I n a w) (fun a w => leastOf (fun n => I n a w)) hf ?_ ?_
  · exact first _ fun n a' w' h => wp_mono (hp n a' w' h) fun e a'' w'' hq => jump_mono (fun _ _ ⟨k, _, hk⟩ => ⟨k, hk⟩) e a'' w'' hq
  · intro a w hI
    refine wp_mono (hs (hp _ a w (leastOf_spec hI).1)) fun e a' w' hq => jump_mono ?_ e a' w' hq
    rintro a' w' ⟨n', hlt, hI'⟩
    exact ⟨⟨n', hI'⟩, Nat.lt_of_le_of_lt ((leastOf_spec ⟨n', hI'⟩).2 n' hI') hlt⟩
end Go.Proofs.Ythkpnnbjcendcaa.Go_
