/-
  No cell of these rows narrows 'for every input' (looked for: loops, veiled, ifaces, maps, wideKeys, modest, calm, conditions, laid).
  DERIVED. THE GIVEN ROWS OF THIS SEAT. 15 by the template 'for every input the law returns true; each argument reads behind the call as it read before'; 0 by the template 'total and deterministic' (their statements: YtinadbbncambdaaTotals.lean).
  GIVEN WITH THE SEED: the statements are not yours to turn. If you find one false, say at which input.
  Laid BY PROGRAM, IN A SANDBOX (cutbox-rows.mjs): the forced cells as the released guide's own fill.sh prints them over the translation 939e7fe15e228c2f… (all of the seat's roots in one cut). By AI agents, Wed Nov 11 2026. No macro, syntax, notation, axiom, sorry.
-/
import Derived.Test.YtinadbbncambdaaChecked
import GoSem.Claim
import GoSem.ClaimJoined
import GoSem.ClaimMapViews
import Derived.JoinedTies
import Derived.KernelRfl
namespace Go.Proofs.Ytinadbbncambdaa
/- THE CELL 'sum', in the pinned program and in every row, IS THE sha256 OF THE DUMP (.gsa) THAT YtinadbbncambdaaProg.lean LOADS. Nothing in Lean hashes anything: it is a label: what it is worth is what the hold of that sum in a sandbox is worth. -/
noncomputable def Try.pinned : Pinned := { name := "ytinadbbncambdaa", sum := "939e7fe15e228c2fac6c8e79659458e680eadf97fa9bd424a8ebdae8ceb417e4", checked := Try.checked }
namespace Rows
def none {H : Type} : Left H := { results := [], args := [] }

/-- 'marigraphlaw02.BitsPlays': WHATEVER THE INPUT: true; the input reads as it did. -/
def bitsPlaysSpec : ChangeSpec := { name := "bitsPlays", fn := fun _ => fun
  | [d] => { results := [.lit (.bool true)], args := [d] }
  | _ => none }
def bitsPlaysRow : OpenClaim := { program := "ytinadbbncambdaa", sum := "939e7fe15e228c2fac6c8e79659458e680eadf97fa9bd424a8ebdae8ceb417e4", func := "marigraph/marigraphlaw02.BitsPlays", spec := "bitsPlays", apart := false }
def BitsPlaysSaid : Prop := bitsPlaysRow.holds Try.pinned (OpenSpec.ofChange bitsPlaysSpec)

/-- ITS FALSE NEIGHBOUR: 'it returns false'. Refute it at one input. -/
def bitsPlaysWrong : ChangeSpec := { name := "bitsPlays", fn := fun _ => fun
  | [d] => { results := [.lit (.bool false)], args := [d] }
  | _ => none }
def BitsPlaysWrongFalsely : Prop := bitsPlaysRow.holds Try.pinned (OpenSpec.ofChange bitsPlaysWrong)

/-- 'marigraphlaw02.BitsParts': WHATEVER THE INPUT: true; the input reads as it did. -/
def bitsPartsSpec : ChangeSpec := { name := "bitsParts", fn := fun _ => fun
  | [d1, d2, d3, d4] => { results := [.lit (.bool true)], args := [d1, d2, d3, d4] }
  | _ => none }
def bitsPartsRow : OpenClaim := { program := "ytinadbbncambdaa", sum := "939e7fe15e228c2fac6c8e79659458e680eadf97fa9bd424a8ebdae8ceb417e4", func := "marigraph/marigraphlaw02.BitsParts", spec := "bitsParts", apart := false }
def BitsPartsSaid : Prop := bitsPartsRow.holds Try.pinned (OpenSpec.ofChange bitsPartsSpec)

/-- ITS FALSE NEIGHBOUR: 'it returns false'. Refute it at one input. -/
def bitsPartsWrong : ChangeSpec := { name := "bitsParts", fn := fun _ => fun
  | [d1, d2, d3, d4] => { results := [.lit (.bool false)], args := [d1, d2, d3, d4] }
  | _ => none }
def BitsPartsWrongFalsely : Prop := bitsPartsRow.holds Try.pinned (OpenSpec.ofChange bitsPartsWrong)

/-- 'marigraphlaw02.BitsStill': WHATEVER THE INPUT: true; the input reads as it did. -/
def bitsStillSpec : ChangeSpec := { name := "bitsStill", fn := fun _ => fun
  | [d1, d2] => { results := [.lit (.bool true)], args := [d1, d2] }
  | _ => none }
def bitsStillRow : OpenClaim := { program := "ytinadbbncambdaa", sum := "939e7fe15e228c2fac6c8e79659458e680eadf97fa9bd424a8ebdae8ceb417e4", func := "marigraph/marigraphlaw02.BitsStill", spec := "bitsStill", apart := false }
def BitsStillSaid : Prop := bitsStillRow.holds Try.pinned (OpenSpec.ofChange bitsStillSpec)

/-- ITS FALSE NEIGHBOUR: 'it returns false'. Refute it at one input. -/
def bitsStillWrong : ChangeSpec := { name := "bitsStill", fn := fun _ => fun
  | [d1, d2] => { results := [.lit (.bool false)], args := [d1, d2] }
  | _ => none }
def BitsStillWrongFalsely : Prop := bitsStillRow.holds Try.pinned (OpenSpec.ofChange bitsStillWrong)

/-- 'marigraphlaw02.BitsNil': WHATEVER THE INPUT: true; the input reads as it did. -/
def bitsNilSpec : ChangeSpec := { name := "bitsNil", fn := fun _ => fun
  | [d] => { results := [.lit (.bool true)], args := [d] }
  | _ => none }
def bitsNilRow : OpenClaim := { program := "ytinadbbncambdaa", sum := "939e7fe15e228c2fac6c8e79659458e680eadf97fa9bd424a8ebdae8ceb417e4", func := "marigraph/marigraphlaw02.BitsNil", spec := "bitsNil", apart := false }
def BitsNilSaid : Prop := bitsNilRow.holds Try.pinned (OpenSpec.ofChange bitsNilSpec)

/-- ITS FALSE NEIGHBOUR: 'it returns false'. Refute it at one input. -/
def bitsNilWrong : ChangeSpec := { name := "bitsNil", fn := fun _ => fun
  | [d] => { results := [.lit (.bool false)], args := [d] }
  | _ => none }
def BitsNilWrongFalsely : Prop := bitsNilRow.holds Try.pinned (OpenSpec.ofChange bitsNilWrong)

/-- 'marigraphlaw02.BitsLen': WHATEVER THE INPUT: true; the input reads as it did. -/
def bitsLenSpec : ChangeSpec := { name := "bitsLen", fn := fun _ => fun
  | [d] => { results := [.lit (.bool true)], args := [d] }
  | _ => none }
def bitsLenRow : OpenClaim := { program := "ytinadbbncambdaa", sum := "939e7fe15e228c2fac6c8e79659458e680eadf97fa9bd424a8ebdae8ceb417e4", func := "marigraph/marigraphlaw02.BitsLen", spec := "bitsLen", apart := false }
def BitsLenSaid : Prop := bitsLenRow.holds Try.pinned (OpenSpec.ofChange bitsLenSpec)

/-- ITS FALSE NEIGHBOUR: 'it returns false'. Refute it at one input. -/
def bitsLenWrong : ChangeSpec := { name := "bitsLen", fn := fun _ => fun
  | [d] => { results := [.lit (.bool false)], args := [d] }
  | _ => none }
def BitsLenWrongFalsely : Prop := bitsLenRow.holds Try.pinned (OpenSpec.ofChange bitsLenWrong)

/-- 'marigraphlaw02.BitsAt': WHATEVER THE INPUT: true; the input reads as it did. -/
def bitsAtSpec : ChangeSpec := { name := "bitsAt", fn := fun _ => fun
  | [d1, d2, d3] => { results := [.lit (.bool true)], args := [d1, d2, d3] }
  | _ => none }
def bitsAtRow : OpenClaim := { program := "ytinadbbncambdaa", sum := "939e7fe15e228c2fac6c8e79659458e680eadf97fa9bd424a8ebdae8ceb417e4", func := "marigraph/marigraphlaw02.BitsAt", spec := "bitsAt", apart := false }
def BitsAtSaid : Prop := bitsAtRow.holds Try.pinned (OpenSpec.ofChange bitsAtSpec)

/-- ITS FALSE NEIGHBOUR: 'it returns false'. Refute it at one input. -/
def bitsAtWrong : ChangeSpec := { name := "bitsAt", fn := fun _ => fun
  | [d1, d2, d3] => { results := [.lit (.bool false)], args := [d1, d2, d3] }
  | _ => none }
def BitsAtWrongFalsely : Prop := bitsAtRow.holds Try.pinned (OpenSpec.ofChange bitsAtWrong)

/-- 'marigraphlaw02.BitsBack': WHATEVER THE INPUT: true; the input reads as it did. -/
def bitsBackSpec : ChangeSpec := { name := "bitsBack", fn := fun _ => fun
  | [d] => { results := [.lit (.bool true)], args := [d] }
  | _ => none }
def bitsBackRow : OpenClaim := { program := "ytinadbbncambdaa", sum := "939e7fe15e228c2fac6c8e79659458e680eadf97fa9bd424a8ebdae8ceb417e4", func := "marigraph/marigraphlaw02.BitsBack", spec := "bitsBack", apart := false }
def BitsBackSaid : Prop := bitsBackRow.holds Try.pinned (OpenSpec.ofChange bitsBackSpec)

/-- ITS FALSE NEIGHBOUR: 'it returns false'. Refute it at one input. -/
def bitsBackWrong : ChangeSpec := { name := "bitsBack", fn := fun _ => fun
  | [d] => { results := [.lit (.bool false)], args := [d] }
  | _ => none }
def BitsBackWrongFalsely : Prop := bitsBackRow.holds Try.pinned (OpenSpec.ofChange bitsBackWrong)

/-- 'marigraphlaw04.StepsPut': WHATEVER THE INPUT: true; the input reads as it did. -/
def stepsPutSpec : ChangeSpec := { name := "stepsPut", fn := fun _ => fun
  | [d] => { results := [.lit (.bool true)], args := [d] }
  | _ => none }
def stepsPutRow : OpenClaim := { program := "ytinadbbncambdaa", sum := "939e7fe15e228c2fac6c8e79659458e680eadf97fa9bd424a8ebdae8ceb417e4", func := "marigraph/marigraphlaw04.StepsPut", spec := "stepsPut", apart := false }
def StepsPutSaid : Prop := stepsPutRow.holds Try.pinned (OpenSpec.ofChange stepsPutSpec)

/-- ITS FALSE NEIGHBOUR: 'it returns false'. Refute it at one input. -/
def stepsPutWrong : ChangeSpec := { name := "stepsPut", fn := fun _ => fun
  | [d] => { results := [.lit (.bool false)], args := [d] }
  | _ => none }
def StepsPutWrongFalsely : Prop := stepsPutRow.holds Try.pinned (OpenSpec.ofChange stepsPutWrong)

/-- 'marigraphlaw04.StepsSame': WHATEVER THE INPUT: true; the input reads as it did. -/
def stepsSameSpec : ChangeSpec := { name := "stepsSame", fn := fun _ => fun
  | [d1, d2, d3, d4, d5] => { results := [.lit (.bool true)], args := [d1, d2, d3, d4, d5] }
  | _ => none }
def stepsSameRow : OpenClaim := { program := "ytinadbbncambdaa", sum := "939e7fe15e228c2fac6c8e79659458e680eadf97fa9bd424a8ebdae8ceb417e4", func := "marigraph/marigraphlaw04.StepsSame", spec := "stepsSame", apart := false }
def StepsSameSaid : Prop := stepsSameRow.holds Try.pinned (OpenSpec.ofChange stepsSameSpec)

/-- ITS FALSE NEIGHBOUR: 'it returns false'. Refute it at one input. -/
def stepsSameWrong : ChangeSpec := { name := "stepsSame", fn := fun _ => fun
  | [d1, d2, d3, d4, d5] => { results := [.lit (.bool false)], args := [d1, d2, d3, d4, d5] }
  | _ => none }
def StepsSameWrongFalsely : Prop := stepsSameRow.holds Try.pinned (OpenSpec.ofChange stepsSameWrong)

/-- 'marigraphlaw04.StepsLine': WHATEVER THE INPUT: true; the input reads as it did. -/
def stepsLineSpec : ChangeSpec := { name := "stepsLine", fn := fun _ => fun
  | [d1, d2, d3] => { results := [.lit (.bool true)], args := [d1, d2, d3] }
  | _ => none }
def stepsLineRow : OpenClaim := { program := "ytinadbbncambdaa", sum := "939e7fe15e228c2fac6c8e79659458e680eadf97fa9bd424a8ebdae8ceb417e4", func := "marigraph/marigraphlaw04.StepsLine", spec := "stepsLine", apart := false }
def StepsLineSaid : Prop := stepsLineRow.holds Try.pinned (OpenSpec.ofChange stepsLineSpec)

/-- ITS FALSE NEIGHBOUR: 'it returns false'. Refute it at one input. -/
def stepsLineWrong : ChangeSpec := { name := "stepsLine", fn := fun _ => fun
  | [d1, d2, d3] => { results := [.lit (.bool false)], args := [d1, d2, d3] }
  | _ => none }
def StepsLineWrongFalsely : Prop := stepsLineRow.holds Try.pinned (OpenSpec.ofChange stepsLineWrong)

/-- 'marigraphlaw04.StepsShift': WHATEVER THE INPUT: true; the input reads as it did. -/
def stepsShiftSpec : ChangeSpec := { name := "stepsShift", fn := fun _ => fun
  | [d1, d2] => { results := [.lit (.bool true)], args := [d1, d2] }
  | _ => none }
def stepsShiftRow : OpenClaim := { program := "ytinadbbncambdaa", sum := "939e7fe15e228c2fac6c8e79659458e680eadf97fa9bd424a8ebdae8ceb417e4", func := "marigraph/marigraphlaw04.StepsShift", spec := "stepsShift", apart := false }
def StepsShiftSaid : Prop := stepsShiftRow.holds Try.pinned (OpenSpec.ofChange stepsShiftSpec)

/-- ITS FALSE NEIGHBOUR: 'it returns false'. Refute it at one input. -/
def stepsShiftWrong : ChangeSpec := { name := "stepsShift", fn := fun _ => fun
  | [d1, d2] => { results := [.lit (.bool false)], args := [d1, d2] }
  | _ => none }
def StepsShiftWrongFalsely : Prop := stepsShiftRow.holds Try.pinned (OpenSpec.ofChange stepsShiftWrong)

/-- 'marigraphlaw04.StepsSeconds': WHATEVER THE INPUT: true; the input reads as it did. -/
def stepsSecondsSpec : ChangeSpec := { name := "stepsSeconds", fn := fun _ => fun
  | [d] => { results := [.lit (.bool true)], args := [d] }
  | _ => none }
def stepsSecondsRow : OpenClaim := { program := "ytinadbbncambdaa", sum := "939e7fe15e228c2fac6c8e79659458e680eadf97fa9bd424a8ebdae8ceb417e4", func := "marigraph/marigraphlaw04.StepsSeconds", spec := "stepsSeconds", apart := false }
def StepsSecondsSaid : Prop := stepsSecondsRow.holds Try.pinned (OpenSpec.ofChange stepsSecondsSpec)

/-- ITS FALSE NEIGHBOUR: 'it returns false'. Refute it at one input. -/
def stepsSecondsWrong : ChangeSpec := { name := "stepsSeconds", fn := fun _ => fun
  | [d] => { results := [.lit (.bool false)], args := [d] }
  | _ => none }
def StepsSecondsWrongFalsely : Prop := stepsSecondsRow.holds Try.pinned (OpenSpec.ofChange stepsSecondsWrong)

/-- 'marigraphlaw04.StepsTake': WHATEVER THE INPUT: true; the input reads as it did. -/
def stepsTakeSpec : ChangeSpec := { name := "stepsTake", fn := fun _ => fun
  | [d] => { results := [.lit (.bool true)], args := [d] }
  | _ => none }
def stepsTakeRow : OpenClaim := { program := "ytinadbbncambdaa", sum := "939e7fe15e228c2fac6c8e79659458e680eadf97fa9bd424a8ebdae8ceb417e4", func := "marigraph/marigraphlaw04.StepsTake", spec := "stepsTake", apart := false }
def StepsTakeSaid : Prop := stepsTakeRow.holds Try.pinned (OpenSpec.ofChange stepsTakeSpec)

/-- ITS FALSE NEIGHBOUR: 'it returns false'. Refute it at one input. -/
def stepsTakeWrong : ChangeSpec := { name := "stepsTake", fn := fun _ => fun
  | [d] => { results := [.lit (.bool false)], args := [d] }
  | _ => none }
def StepsTakeWrongFalsely : Prop := stepsTakeRow.holds Try.pinned (OpenSpec.ofChange stepsTakeWrong)

/-- 'marigraphlaw04.StepsBack': WHATEVER THE INPUT: true; the input reads as it did. -/
def stepsBackSpec : ChangeSpec := { name := "stepsBack", fn := fun _ => fun
  | [d1, d2] => { results := [.lit (.bool true)], args := [d1, d2] }
  | _ => none }
def stepsBackRow : OpenClaim := { program := "ytinadbbncambdaa", sum := "939e7fe15e228c2fac6c8e79659458e680eadf97fa9bd424a8ebdae8ceb417e4", func := "marigraph/marigraphlaw04.StepsBack", spec := "stepsBack", apart := false }
def StepsBackSaid : Prop := stepsBackRow.holds Try.pinned (OpenSpec.ofChange stepsBackSpec)

/-- ITS FALSE NEIGHBOUR: 'it returns false'. Refute it at one input. -/
def stepsBackWrong : ChangeSpec := { name := "stepsBack", fn := fun _ => fun
  | [d1, d2] => { results := [.lit (.bool false)], args := [d1, d2] }
  | _ => none }
def StepsBackWrongFalsely : Prop := stepsBackRow.holds Try.pinned (OpenSpec.ofChange stepsBackWrong)

/-- 'marigraphlaw04.StepsCut': WHATEVER THE INPUT: true; the input reads as it did. -/
def stepsCutSpec : ChangeSpec := { name := "stepsCut", fn := fun _ => fun
  | [d1, d2, d3] => { results := [.lit (.bool true)], args := [d1, d2, d3] }
  | _ => none }
def stepsCutRow : OpenClaim := { program := "ytinadbbncambdaa", sum := "939e7fe15e228c2fac6c8e79659458e680eadf97fa9bd424a8ebdae8ceb417e4", func := "marigraph/marigraphlaw04.StepsCut", spec := "stepsCut", apart := false }
def StepsCutSaid : Prop := stepsCutRow.holds Try.pinned (OpenSpec.ofChange stepsCutSpec)

/-- ITS FALSE NEIGHBOUR: 'it returns false'. Refute it at one input. -/
def stepsCutWrong : ChangeSpec := { name := "stepsCut", fn := fun _ => fun
  | [d1, d2, d3] => { results := [.lit (.bool false)], args := [d1, d2, d3] }
  | _ => none }
def StepsCutWrongFalsely : Prop := stepsCutRow.holds Try.pinned (OpenSpec.ofChange stepsCutWrong)

/- THE SECOND FORM. 'bulk': how many values and letters a reading holds, each counted each time it is reached (what is shared counts as often as it is met; a slice's spare places count too). A statement '..UptoSaid' is the law's where the arguments, and the package variables that the reading takes, are together of bulk at most 1048576: NARROWER than '..Said'. Prove '..Said' where nothing that the law and all that it calls make is longer than what came in: it says more and counts as full. Else prove '..UptoSaid'. A law counts once. -/
mutual
def uptoBulk {H : Type} : DataW H → Nat
  | .lit (.string bytes) => bytes.length + 1
  | .lit _ => 1
  | .nil => 1
  | .ptr d => uptoBulk d + 1
  | .slice elems spare => uptoBulkAll elems + uptoBulkAll spare + 1
  | .agg parts => uptoBulkAll parts + 1
  | .iface _ d => uptoBulk d + 1
  | .map entries => uptoBulkEntries entries + 1
  | .held _ => 1
def uptoBulkAll {H : Type} : List (DataW H) → Nat
  | [] => 0
  | d :: r => uptoBulk d + uptoBulkAll r
def uptoBulkEntries {H : Type} : List (Lit × DataW H) → Nat
  | [] => 0
  | x :: r => uptoBulkEntry x + uptoBulkEntries r
def uptoBulkEntry {H : Type} : Lit × DataW H → Nat
  | (.string bytes, d) => bytes.length + uptoBulk d + 1
  | (_, d) => uptoBulk d + 1
 end
def uptoSmall : (H : Type) → List (DataW H) → Bool := fun _ ds => decide (uptoBulkAll ds ≤ 1048576)
def OpenSpec.upto (s : _root_.Go.ChangeSpec) : _root_.Go.OpenSpec := { _root_.Go.OpenSpec.ofChange s with cond := some uptoSmall }

/-- 'marigraphlaw02.BitsPlays', WHERE WHAT IT READS IS OF BULK AT MOST 1048576: true; the input reads as it did. -/
def bitsPlaysUptoRow : OpenClaim := { program := "ytinadbbncambdaa", sum := "939e7fe15e228c2fac6c8e79659458e680eadf97fa9bd424a8ebdae8ceb417e4", func := "marigraph/marigraphlaw02.BitsPlays", spec := "bitsPlays", apart := false, narrowed := true }
def BitsPlaysUptoSaid : Prop := bitsPlaysUptoRow.holds Try.pinned (OpenSpec.upto bitsPlaysSpec)

/-- 'marigraphlaw02.BitsParts', WHERE WHAT IT READS IS OF BULK AT MOST 1048576: true; the input reads as it did. -/
def bitsPartsUptoRow : OpenClaim := { program := "ytinadbbncambdaa", sum := "939e7fe15e228c2fac6c8e79659458e680eadf97fa9bd424a8ebdae8ceb417e4", func := "marigraph/marigraphlaw02.BitsParts", spec := "bitsParts", apart := false, narrowed := true }
def BitsPartsUptoSaid : Prop := bitsPartsUptoRow.holds Try.pinned (OpenSpec.upto bitsPartsSpec)

/-- 'marigraphlaw02.BitsStill', WHERE WHAT IT READS IS OF BULK AT MOST 1048576: true; the input reads as it did. -/
def bitsStillUptoRow : OpenClaim := { program := "ytinadbbncambdaa", sum := "939e7fe15e228c2fac6c8e79659458e680eadf97fa9bd424a8ebdae8ceb417e4", func := "marigraph/marigraphlaw02.BitsStill", spec := "bitsStill", apart := false, narrowed := true }
def BitsStillUptoSaid : Prop := bitsStillUptoRow.holds Try.pinned (OpenSpec.upto bitsStillSpec)

/-- 'marigraphlaw02.BitsNil', WHERE WHAT IT READS IS OF BULK AT MOST 1048576: true; the input reads as it did. -/
def bitsNilUptoRow : OpenClaim := { program := "ytinadbbncambdaa", sum := "939e7fe15e228c2fac6c8e79659458e680eadf97fa9bd424a8ebdae8ceb417e4", func := "marigraph/marigraphlaw02.BitsNil", spec := "bitsNil", apart := false, narrowed := true }
def BitsNilUptoSaid : Prop := bitsNilUptoRow.holds Try.pinned (OpenSpec.upto bitsNilSpec)

/-- 'marigraphlaw02.BitsLen', WHERE WHAT IT READS IS OF BULK AT MOST 1048576: true; the input reads as it did. -/
def bitsLenUptoRow : OpenClaim := { program := "ytinadbbncambdaa", sum := "939e7fe15e228c2fac6c8e79659458e680eadf97fa9bd424a8ebdae8ceb417e4", func := "marigraph/marigraphlaw02.BitsLen", spec := "bitsLen", apart := false, narrowed := true }
def BitsLenUptoSaid : Prop := bitsLenUptoRow.holds Try.pinned (OpenSpec.upto bitsLenSpec)

/-- 'marigraphlaw02.BitsAt', WHERE WHAT IT READS IS OF BULK AT MOST 1048576: true; the input reads as it did. -/
def bitsAtUptoRow : OpenClaim := { program := "ytinadbbncambdaa", sum := "939e7fe15e228c2fac6c8e79659458e680eadf97fa9bd424a8ebdae8ceb417e4", func := "marigraph/marigraphlaw02.BitsAt", spec := "bitsAt", apart := false, narrowed := true }
def BitsAtUptoSaid : Prop := bitsAtUptoRow.holds Try.pinned (OpenSpec.upto bitsAtSpec)

/-- 'marigraphlaw02.BitsBack', WHERE WHAT IT READS IS OF BULK AT MOST 1048576: true; the input reads as it did. -/
def bitsBackUptoRow : OpenClaim := { program := "ytinadbbncambdaa", sum := "939e7fe15e228c2fac6c8e79659458e680eadf97fa9bd424a8ebdae8ceb417e4", func := "marigraph/marigraphlaw02.BitsBack", spec := "bitsBack", apart := false, narrowed := true }
def BitsBackUptoSaid : Prop := bitsBackUptoRow.holds Try.pinned (OpenSpec.upto bitsBackSpec)

/-- 'marigraphlaw04.StepsPut', WHERE WHAT IT READS IS OF BULK AT MOST 1048576: true; the input reads as it did. -/
def stepsPutUptoRow : OpenClaim := { program := "ytinadbbncambdaa", sum := "939e7fe15e228c2fac6c8e79659458e680eadf97fa9bd424a8ebdae8ceb417e4", func := "marigraph/marigraphlaw04.StepsPut", spec := "stepsPut", apart := false, narrowed := true }
def StepsPutUptoSaid : Prop := stepsPutUptoRow.holds Try.pinned (OpenSpec.upto stepsPutSpec)

/-- 'marigraphlaw04.StepsSame', WHERE WHAT IT READS IS OF BULK AT MOST 1048576: true; the input reads as it did. -/
def stepsSameUptoRow : OpenClaim := { program := "ytinadbbncambdaa", sum := "939e7fe15e228c2fac6c8e79659458e680eadf97fa9bd424a8ebdae8ceb417e4", func := "marigraph/marigraphlaw04.StepsSame", spec := "stepsSame", apart := false, narrowed := true }
def StepsSameUptoSaid : Prop := stepsSameUptoRow.holds Try.pinned (OpenSpec.upto stepsSameSpec)

/-- 'marigraphlaw04.StepsLine', WHERE WHAT IT READS IS OF BULK AT MOST 1048576: true; the input reads as it did. -/
def stepsLineUptoRow : OpenClaim := { program := "ytinadbbncambdaa", sum := "939e7fe15e228c2fac6c8e79659458e680eadf97fa9bd424a8ebdae8ceb417e4", func := "marigraph/marigraphlaw04.StepsLine", spec := "stepsLine", apart := false, narrowed := true }
def StepsLineUptoSaid : Prop := stepsLineUptoRow.holds Try.pinned (OpenSpec.upto stepsLineSpec)

/-- 'marigraphlaw04.StepsShift', WHERE WHAT IT READS IS OF BULK AT MOST 1048576: true; the input reads as it did. -/
def stepsShiftUptoRow : OpenClaim := { program := "ytinadbbncambdaa", sum := "939e7fe15e228c2fac6c8e79659458e680eadf97fa9bd424a8ebdae8ceb417e4", func := "marigraph/marigraphlaw04.StepsShift", spec := "stepsShift", apart := false, narrowed := true }
def StepsShiftUptoSaid : Prop := stepsShiftUptoRow.holds Try.pinned (OpenSpec.upto stepsShiftSpec)

/-- 'marigraphlaw04.StepsSeconds', WHERE WHAT IT READS IS OF BULK AT MOST 1048576: true; the input reads as it did. -/
def stepsSecondsUptoRow : OpenClaim := { program := "ytinadbbncambdaa", sum := "939e7fe15e228c2fac6c8e79659458e680eadf97fa9bd424a8ebdae8ceb417e4", func := "marigraph/marigraphlaw04.StepsSeconds", spec := "stepsSeconds", apart := false, narrowed := true }
def StepsSecondsUptoSaid : Prop := stepsSecondsUptoRow.holds Try.pinned (OpenSpec.upto stepsSecondsSpec)

/-- 'marigraphlaw04.StepsTake', WHERE WHAT IT READS IS OF BULK AT MOST 1048576: true; the input reads as it did. -/
def stepsTakeUptoRow : OpenClaim := { program := "ytinadbbncambdaa", sum := "939e7fe15e228c2fac6c8e79659458e680eadf97fa9bd424a8ebdae8ceb417e4", func := "marigraph/marigraphlaw04.StepsTake", spec := "stepsTake", apart := false, narrowed := true }
def StepsTakeUptoSaid : Prop := stepsTakeUptoRow.holds Try.pinned (OpenSpec.upto stepsTakeSpec)

/-- 'marigraphlaw04.StepsBack', WHERE WHAT IT READS IS OF BULK AT MOST 1048576: true; the input reads as it did. -/
def stepsBackUptoRow : OpenClaim := { program := "ytinadbbncambdaa", sum := "939e7fe15e228c2fac6c8e79659458e680eadf97fa9bd424a8ebdae8ceb417e4", func := "marigraph/marigraphlaw04.StepsBack", spec := "stepsBack", apart := false, narrowed := true }
def StepsBackUptoSaid : Prop := stepsBackUptoRow.holds Try.pinned (OpenSpec.upto stepsBackSpec)

/-- 'marigraphlaw04.StepsCut', WHERE WHAT IT READS IS OF BULK AT MOST 1048576: true; the input reads as it did. -/
def stepsCutUptoRow : OpenClaim := { program := "ytinadbbncambdaa", sum := "939e7fe15e228c2fac6c8e79659458e680eadf97fa9bd424a8ebdae8ceb417e4", func := "marigraph/marigraphlaw04.StepsCut", spec := "stepsCut", apart := false, narrowed := true }
def StepsCutUptoSaid : Prop := stepsCutUptoRow.holds Try.pinned (OpenSpec.upto stepsCutSpec)

end Rows
end Go.Proofs.Ytinadbbncambdaa
