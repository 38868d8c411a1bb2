/-
  No cell of these rows narrows 'for every input' (looked for: loops, veiled, ifaces, maps, wideKeys, modest, calm, conditions, laid).
  DERIVED. THE GIVEN ROWS OF THIS SEAT. 17 by the template 'for every input the law returns true; each argument reads behind the call as it read before'; 0 by the template 'total and deterministic' (their statements: YthkpnnbjcendcaaTotals.lean).
  GIVEN WITH THE SEED: the statements are not yours to turn. If you find one false, say at which input.
  Laid BY PROGRAM, IN A SANDBOX (cutbox-rows.mjs): the forced cells as the released guide's own fill.sh prints them over the translation 34332b8b2ef65edf… (all of the seat's roots in one cut). By AI agents, Wed Nov 11 2026. No macro, syntax, notation, axiom, sorry.
-/
import Derived.Test.YthkpnnbjcendcaaChecked
import GoSem.Claim
import GoSem.ClaimJoined
import GoSem.ClaimMapViews
import Derived.JoinedTies
import Derived.KernelRfl
namespace Go.Proofs.Ythkpnnbjcendcaa
/- THE CELL 'sum', in the pinned program and in every row, IS THE sha256 OF THE DUMP (.gsa) THAT YthkpnnbjcendcaaProg.lean LOADS. Nothing in Lean hashes anything: it is a label: what it is worth is what the hold of that sum in a sandbox is worth. -/
noncomputable def Try.pinned : Pinned := { name := "ythkpnnbjcendcaa", sum := "34332b8b2ef65edf66148623d91d3bfef0863da06c086c54da7f025df6f7df5b", checked := Try.checked }
namespace Rows
def none {H : Type} : Left H := { results := [], args := [] }

/-- 'marigraphlaw02.BitsPlays': WHATEVER THE INPUT: true; the input reads as it did. -/
def bitsPlaysSpec : ChangeSpec := { name := "bitsPlays", fn := fun _ => fun
  | [d] => { results := [.lit (.bool true)], args := [d] }
  | _ => none }
def bitsPlaysRow : OpenClaim := { program := "ythkpnnbjcendcaa", sum := "34332b8b2ef65edf66148623d91d3bfef0863da06c086c54da7f025df6f7df5b", func := "marigraph/marigraphlaw02.BitsPlays", spec := "bitsPlays", apart := false }
def BitsPlaysSaid : Prop := bitsPlaysRow.holds Try.pinned (OpenSpec.ofChange bitsPlaysSpec)

/-- ITS FALSE NEIGHBOUR: 'it returns false'. Refute it at one input. -/
def bitsPlaysWrong : ChangeSpec := { name := "bitsPlays", fn := fun _ => fun
  | [d] => { results := [.lit (.bool false)], args := [d] }
  | _ => none }
def BitsPlaysWrongFalsely : Prop := bitsPlaysRow.holds Try.pinned (OpenSpec.ofChange bitsPlaysWrong)

/-- 'marigraphlaw02.BitsStill': WHATEVER THE INPUT: true; the input reads as it did. -/
def bitsStillSpec : ChangeSpec := { name := "bitsStill", fn := fun _ => fun
  | [d1, d2] => { results := [.lit (.bool true)], args := [d1, d2] }
  | _ => none }
def bitsStillRow : OpenClaim := { program := "ythkpnnbjcendcaa", sum := "34332b8b2ef65edf66148623d91d3bfef0863da06c086c54da7f025df6f7df5b", func := "marigraph/marigraphlaw02.BitsStill", spec := "bitsStill", apart := false }
def BitsStillSaid : Prop := bitsStillRow.holds Try.pinned (OpenSpec.ofChange bitsStillSpec)

/-- ITS FALSE NEIGHBOUR: 'it returns false'. Refute it at one input. -/
def bitsStillWrong : ChangeSpec := { name := "bitsStill", fn := fun _ => fun
  | [d1, d2] => { results := [.lit (.bool false)], args := [d1, d2] }
  | _ => none }
def BitsStillWrongFalsely : Prop := bitsStillRow.holds Try.pinned (OpenSpec.ofChange bitsStillWrong)

/-- 'marigraphlaw02.BitsBack': WHATEVER THE INPUT: true; the input reads as it did. -/
def bitsBackSpec : ChangeSpec := { name := "bitsBack", fn := fun _ => fun
  | [d] => { results := [.lit (.bool true)], args := [d] }
  | _ => none }
def bitsBackRow : OpenClaim := { program := "ythkpnnbjcendcaa", sum := "34332b8b2ef65edf66148623d91d3bfef0863da06c086c54da7f025df6f7df5b", func := "marigraph/marigraphlaw02.BitsBack", spec := "bitsBack", apart := false }
def BitsBackSaid : Prop := bitsBackRow.holds Try.pinned (OpenSpec.ofChange bitsBackSpec)

/-- ITS FALSE NEIGHBOUR: 'it returns false'. Refute it at one input. -/
def bitsBackWrong : ChangeSpec := { name := "bitsBack", fn := fun _ => fun
  | [d] => { results := [.lit (.bool false)], args := [d] }
  | _ => none }
def BitsBackWrongFalsely : Prop := bitsBackRow.holds Try.pinned (OpenSpec.ofChange bitsBackWrong)

/-- 'marigraphlaw04.StepsPut': WHATEVER THE INPUT: true; the input reads as it did. -/
def stepsPutSpec : ChangeSpec := { name := "stepsPut", fn := fun _ => fun
  | [d] => { results := [.lit (.bool true)], args := [d] }
  | _ => none }
def stepsPutRow : OpenClaim := { program := "ythkpnnbjcendcaa", sum := "34332b8b2ef65edf66148623d91d3bfef0863da06c086c54da7f025df6f7df5b", func := "marigraph/marigraphlaw04.StepsPut", spec := "stepsPut", apart := false }
def StepsPutSaid : Prop := stepsPutRow.holds Try.pinned (OpenSpec.ofChange stepsPutSpec)

/-- ITS FALSE NEIGHBOUR: 'it returns false'. Refute it at one input. -/
def stepsPutWrong : ChangeSpec := { name := "stepsPut", fn := fun _ => fun
  | [d] => { results := [.lit (.bool false)], args := [d] }
  | _ => none }
def StepsPutWrongFalsely : Prop := stepsPutRow.holds Try.pinned (OpenSpec.ofChange stepsPutWrong)

/-- 'marigraphlaw04.StepsSame': WHATEVER THE INPUT: true; the input reads as it did. -/
def stepsSameSpec : ChangeSpec := { name := "stepsSame", fn := fun _ => fun
  | [d1, d2, d3, d4, d5] => { results := [.lit (.bool true)], args := [d1, d2, d3, d4, d5] }
  | _ => none }
def stepsSameRow : OpenClaim := { program := "ythkpnnbjcendcaa", sum := "34332b8b2ef65edf66148623d91d3bfef0863da06c086c54da7f025df6f7df5b", func := "marigraph/marigraphlaw04.StepsSame", spec := "stepsSame", apart := false }
def StepsSameSaid : Prop := stepsSameRow.holds Try.pinned (OpenSpec.ofChange stepsSameSpec)

/-- ITS FALSE NEIGHBOUR: 'it returns false'. Refute it at one input. -/
def stepsSameWrong : ChangeSpec := { name := "stepsSame", fn := fun _ => fun
  | [d1, d2, d3, d4, d5] => { results := [.lit (.bool false)], args := [d1, d2, d3, d4, d5] }
  | _ => none }
def StepsSameWrongFalsely : Prop := stepsSameRow.holds Try.pinned (OpenSpec.ofChange stepsSameWrong)

/-- 'marigraphlaw04.StepsLine': WHATEVER THE INPUT: true; the input reads as it did. -/
def stepsLineSpec : ChangeSpec := { name := "stepsLine", fn := fun _ => fun
  | [d1, d2, d3] => { results := [.lit (.bool true)], args := [d1, d2, d3] }
  | _ => none }
def stepsLineRow : OpenClaim := { program := "ythkpnnbjcendcaa", sum := "34332b8b2ef65edf66148623d91d3bfef0863da06c086c54da7f025df6f7df5b", func := "marigraph/marigraphlaw04.StepsLine", spec := "stepsLine", apart := false }
def StepsLineSaid : Prop := stepsLineRow.holds Try.pinned (OpenSpec.ofChange stepsLineSpec)

/-- ITS FALSE NEIGHBOUR: 'it returns false'. Refute it at one input. -/
def stepsLineWrong : ChangeSpec := { name := "stepsLine", fn := fun _ => fun
  | [d1, d2, d3] => { results := [.lit (.bool false)], args := [d1, d2, d3] }
  | _ => none }
def StepsLineWrongFalsely : Prop := stepsLineRow.holds Try.pinned (OpenSpec.ofChange stepsLineWrong)

/-- 'marigraphlaw04.StepsShift': WHATEVER THE INPUT: true; the input reads as it did. -/
def stepsShiftSpec : ChangeSpec := { name := "stepsShift", fn := fun _ => fun
  | [d1, d2] => { results := [.lit (.bool true)], args := [d1, d2] }
  | _ => none }
def stepsShiftRow : OpenClaim := { program := "ythkpnnbjcendcaa", sum := "34332b8b2ef65edf66148623d91d3bfef0863da06c086c54da7f025df6f7df5b", func := "marigraph/marigraphlaw04.StepsShift", spec := "stepsShift", apart := false }
def StepsShiftSaid : Prop := stepsShiftRow.holds Try.pinned (OpenSpec.ofChange stepsShiftSpec)

/-- ITS FALSE NEIGHBOUR: 'it returns false'. Refute it at one input. -/
def stepsShiftWrong : ChangeSpec := { name := "stepsShift", fn := fun _ => fun
  | [d1, d2] => { results := [.lit (.bool false)], args := [d1, d2] }
  | _ => none }
def StepsShiftWrongFalsely : Prop := stepsShiftRow.holds Try.pinned (OpenSpec.ofChange stepsShiftWrong)

/-- 'marigraphlaw04.StepsSeconds': WHATEVER THE INPUT: true; the input reads as it did. -/
def stepsSecondsSpec : ChangeSpec := { name := "stepsSeconds", fn := fun _ => fun
  | [d] => { results := [.lit (.bool true)], args := [d] }
  | _ => none }
def stepsSecondsRow : OpenClaim := { program := "ythkpnnbjcendcaa", sum := "34332b8b2ef65edf66148623d91d3bfef0863da06c086c54da7f025df6f7df5b", func := "marigraph/marigraphlaw04.StepsSeconds", spec := "stepsSeconds", apart := false }
def StepsSecondsSaid : Prop := stepsSecondsRow.holds Try.pinned (OpenSpec.ofChange stepsSecondsSpec)

/-- ITS FALSE NEIGHBOUR: 'it returns false'. Refute it at one input. -/
def stepsSecondsWrong : ChangeSpec := { name := "stepsSeconds", fn := fun _ => fun
  | [d] => { results := [.lit (.bool false)], args := [d] }
  | _ => none }
def StepsSecondsWrongFalsely : Prop := stepsSecondsRow.holds Try.pinned (OpenSpec.ofChange stepsSecondsWrong)

/-- 'marigraphlaw04.StepsTake': WHATEVER THE INPUT: true; the input reads as it did. -/
def stepsTakeSpec : ChangeSpec := { name := "stepsTake", fn := fun _ => fun
  | [d] => { results := [.lit (.bool true)], args := [d] }
  | _ => none }
def stepsTakeRow : OpenClaim := { program := "ythkpnnbjcendcaa", sum := "34332b8b2ef65edf66148623d91d3bfef0863da06c086c54da7f025df6f7df5b", func := "marigraph/marigraphlaw04.StepsTake", spec := "stepsTake", apart := false }
def StepsTakeSaid : Prop := stepsTakeRow.holds Try.pinned (OpenSpec.ofChange stepsTakeSpec)

/-- ITS FALSE NEIGHBOUR: 'it returns false'. Refute it at one input. -/
def stepsTakeWrong : ChangeSpec := { name := "stepsTake", fn := fun _ => fun
  | [d] => { results := [.lit (.bool false)], args := [d] }
  | _ => none }
def StepsTakeWrongFalsely : Prop := stepsTakeRow.holds Try.pinned (OpenSpec.ofChange stepsTakeWrong)

/-- 'marigraphlaw04.StepsBack': WHATEVER THE INPUT: true; the input reads as it did. -/
def stepsBackSpec : ChangeSpec := { name := "stepsBack", fn := fun _ => fun
  | [d1, d2] => { results := [.lit (.bool true)], args := [d1, d2] }
  | _ => none }
def stepsBackRow : OpenClaim := { program := "ythkpnnbjcendcaa", sum := "34332b8b2ef65edf66148623d91d3bfef0863da06c086c54da7f025df6f7df5b", func := "marigraph/marigraphlaw04.StepsBack", spec := "stepsBack", apart := false }
def StepsBackSaid : Prop := stepsBackRow.holds Try.pinned (OpenSpec.ofChange stepsBackSpec)

/-- ITS FALSE NEIGHBOUR: 'it returns false'. Refute it at one input. -/
def stepsBackWrong : ChangeSpec := { name := "stepsBack", fn := fun _ => fun
  | [d1, d2] => { results := [.lit (.bool false)], args := [d1, d2] }
  | _ => none }
def StepsBackWrongFalsely : Prop := stepsBackRow.holds Try.pinned (OpenSpec.ofChange stepsBackWrong)

/-- 'marigraphlaw04.StepsCut': WHATEVER THE INPUT: true; the input reads as it did. -/
def stepsCutSpec : ChangeSpec := { name := "stepsCut", fn := fun _ => fun
  | [d1, d2, d3] => { results := [.lit (.bool true)], args := [d1, d2, d3] }
  | _ => none }
def stepsCutRow : OpenClaim := { program := "ythkpnnbjcendcaa", sum := "34332b8b2ef65edf66148623d91d3bfef0863da06c086c54da7f025df6f7df5b", func := "marigraph/marigraphlaw04.StepsCut", spec := "stepsCut", apart := false }
def StepsCutSaid : Prop := stepsCutRow.holds Try.pinned (OpenSpec.ofChange stepsCutSpec)

/-- ITS FALSE NEIGHBOUR: 'it returns false'. Refute it at one input. -/
def stepsCutWrong : ChangeSpec := { name := "stepsCut", fn := fun _ => fun
  | [d1, d2, d3] => { results := [.lit (.bool false)], args := [d1, d2, d3] }
  | _ => none }
def StepsCutWrongFalsely : Prop := stepsCutRow.holds Try.pinned (OpenSpec.ofChange stepsCutWrong)

/-- 'marigraphlaw09.BlockTells': WHATEVER THE INPUT: true; the input reads as it did. -/
def blockTellsSpec : ChangeSpec := { name := "blockTells", fn := fun _ => fun
  | [d1, d2, d3, d4, d5, d6] => { results := [.lit (.bool true)], args := [d1, d2, d3, d4, d5, d6] }
  | _ => none }
def blockTellsRow : OpenClaim := { program := "ythkpnnbjcendcaa", sum := "34332b8b2ef65edf66148623d91d3bfef0863da06c086c54da7f025df6f7df5b", func := "marigraph/marigraphlaw09.BlockTells", spec := "blockTells", unfollowed := true, recurses := true, apart := false }
def BlockTellsSaid : Prop := blockTellsRow.holds Try.pinned (OpenSpec.ofChange blockTellsSpec)

/-- ITS FALSE NEIGHBOUR: 'it returns false'. Refute it at one input. -/
def blockTellsWrong : ChangeSpec := { name := "blockTells", fn := fun _ => fun
  | [d1, d2, d3, d4, d5, d6] => { results := [.lit (.bool false)], args := [d1, d2, d3, d4, d5, d6] }
  | _ => none }
def BlockTellsWrongFalsely : Prop := blockTellsRow.holds Try.pinned (OpenSpec.ofChange blockTellsWrong)

/-- 'marigraphlaw09.BlockRanges': WHATEVER THE INPUT: true; the input reads as it did. -/
def blockRangesSpec : ChangeSpec := { name := "blockRanges", fn := fun _ => fun
  | [d1, d2, d3] => { results := [.lit (.bool true)], args := [d1, d2, d3] }
  | _ => none }
def blockRangesRow : OpenClaim := { program := "ythkpnnbjcendcaa", sum := "34332b8b2ef65edf66148623d91d3bfef0863da06c086c54da7f025df6f7df5b", func := "marigraph/marigraphlaw09.BlockRanges", spec := "blockRanges", unfollowed := true, recurses := true, apart := false }
def BlockRangesSaid : Prop := blockRangesRow.holds Try.pinned (OpenSpec.ofChange blockRangesSpec)

/-- ITS FALSE NEIGHBOUR: 'it returns false'. Refute it at one input. -/
def blockRangesWrong : ChangeSpec := { name := "blockRanges", fn := fun _ => fun
  | [d1, d2, d3] => { results := [.lit (.bool false)], args := [d1, d2, d3] }
  | _ => none }
def BlockRangesWrongFalsely : Prop := blockRangesRow.holds Try.pinned (OpenSpec.ofChange blockRangesWrong)

/-- 'marigraphlaw09.BlockPuts': WHATEVER THE INPUT: true; the input reads as it did. -/
def blockPutsSpec : ChangeSpec := { name := "blockPuts", fn := fun _ => fun
  | [d] => { results := [.lit (.bool true)], args := [d] }
  | _ => none }
def blockPutsRow : OpenClaim := { program := "ythkpnnbjcendcaa", sum := "34332b8b2ef65edf66148623d91d3bfef0863da06c086c54da7f025df6f7df5b", func := "marigraph/marigraphlaw09.BlockPuts", spec := "blockPuts", apart := false }
def BlockPutsSaid : Prop := blockPutsRow.holds Try.pinned (OpenSpec.ofChange blockPutsSpec)

/-- ITS FALSE NEIGHBOUR: 'it returns false'. Refute it at one input. -/
def blockPutsWrong : ChangeSpec := { name := "blockPuts", fn := fun _ => fun
  | [d] => { results := [.lit (.bool false)], args := [d] }
  | _ => none }
def BlockPutsWrongFalsely : Prop := blockPutsRow.holds Try.pinned (OpenSpec.ofChange blockPutsWrong)

/-- 'marigraphlaw09.BlockTakes': WHATEVER THE INPUT: true; the input reads as it did. -/
def blockTakesSpec : ChangeSpec := { name := "blockTakes", fn := fun _ => fun
  | [d] => { results := [.lit (.bool true)], args := [d] }
  | _ => none }
def blockTakesRow : OpenClaim := { program := "ythkpnnbjcendcaa", sum := "34332b8b2ef65edf66148623d91d3bfef0863da06c086c54da7f025df6f7df5b", func := "marigraph/marigraphlaw09.BlockTakes", spec := "blockTakes", apart := false }
def BlockTakesSaid : Prop := blockTakesRow.holds Try.pinned (OpenSpec.ofChange blockTakesSpec)

/-- ITS FALSE NEIGHBOUR: 'it returns false'. Refute it at one input. -/
def blockTakesWrong : ChangeSpec := { name := "blockTakes", fn := fun _ => fun
  | [d] => { results := [.lit (.bool false)], args := [d] }
  | _ => none }
def BlockTakesWrongFalsely : Prop := blockTakesRow.holds Try.pinned (OpenSpec.ofChange blockTakesWrong)

/-- 'marigraphlaw09.BlockBack': WHATEVER THE INPUT: true; the input reads as it did. -/
def blockBackSpec : ChangeSpec := { name := "blockBack", fn := fun _ => fun
  | [d1, d2] => { results := [.lit (.bool true)], args := [d1, d2] }
  | _ => none }
def blockBackRow : OpenClaim := { program := "ythkpnnbjcendcaa", sum := "34332b8b2ef65edf66148623d91d3bfef0863da06c086c54da7f025df6f7df5b", func := "marigraph/marigraphlaw09.BlockBack", spec := "blockBack", apart := false }
def BlockBackSaid : Prop := blockBackRow.holds Try.pinned (OpenSpec.ofChange blockBackSpec)

/-- ITS FALSE NEIGHBOUR: 'it returns false'. Refute it at one input. -/
def blockBackWrong : ChangeSpec := { name := "blockBack", fn := fun _ => fun
  | [d1, d2] => { results := [.lit (.bool false)], args := [d1, d2] }
  | _ => none }
def BlockBackWrongFalsely : Prop := blockBackRow.holds Try.pinned (OpenSpec.ofChange blockBackWrong)

/-- 'marigraphlaw09.BlockTurned': WHATEVER THE INPUT: true; the input reads as it did. -/
def blockTurnedSpec : ChangeSpec := { name := "blockTurned", fn := fun _ => fun
  | [d1, d2, d3, d4] => { results := [.lit (.bool true)], args := [d1, d2, d3, d4] }
  | _ => none }
def blockTurnedRow : OpenClaim := { program := "ythkpnnbjcendcaa", sum := "34332b8b2ef65edf66148623d91d3bfef0863da06c086c54da7f025df6f7df5b", func := "marigraph/marigraphlaw09.BlockTurned", spec := "blockTurned", apart := false }
def BlockTurnedSaid : Prop := blockTurnedRow.holds Try.pinned (OpenSpec.ofChange blockTurnedSpec)

/-- ITS FALSE NEIGHBOUR: 'it returns false'. Refute it at one input. -/
def blockTurnedWrong : ChangeSpec := { name := "blockTurned", fn := fun _ => fun
  | [d1, d2, d3, d4] => { results := [.lit (.bool false)], args := [d1, d2, d3, d4] }
  | _ => none }
def BlockTurnedWrongFalsely : Prop := blockTurnedRow.holds Try.pinned (OpenSpec.ofChange blockTurnedWrong)

/- THE SECOND FORM. 'bulk': how many values and letters a reading holds, each counted each time it is reached (what is shared counts as often as it is met; a slice's spare places count too). A statement '..UptoSaid' is the law's where the arguments, and the package variables that the reading takes, are together of bulk at most 1048576: NARROWER than '..Said'. Prove '..Said' where nothing that the law and all that it calls make is longer than what came in: it says more and counts as full. Else prove '..UptoSaid'. A law counts once. -/
mutual
def uptoBulk {H : Type} : DataW H → Nat
  | .lit (.string bytes) => bytes.length + 1
  | .lit _ => 1
  | .nil => 1
  | .ptr d => uptoBulk d + 1
  | .slice elems spare => uptoBulkAll elems + uptoBulkAll spare + 1
  | .agg parts => uptoBulkAll parts + 1
  | .iface _ d => uptoBulk d + 1
  | .map entries => uptoBulkEntries entries + 1
  | .held _ => 1
def uptoBulkAll {H : Type} : List (DataW H) → Nat
  | [] => 0
  | d :: r => uptoBulk d + uptoBulkAll r
def uptoBulkEntries {H : Type} : List (Lit × DataW H) → Nat
  | [] => 0
  | x :: r => uptoBulkEntry x + uptoBulkEntries r
def uptoBulkEntry {H : Type} : Lit × DataW H → Nat
  | (.string bytes, d) => bytes.length + uptoBulk d + 1
  | (_, d) => uptoBulk d + 1
 end
def uptoSmall : (H : Type) → List (DataW H) → Bool := fun _ ds => decide (uptoBulkAll ds ≤ 1048576)
def OpenSpec.upto (s : _root_.Go.ChangeSpec) : _root_.Go.OpenSpec := { _root_.Go.OpenSpec.ofChange s with cond := some uptoSmall }

/-- 'marigraphlaw02.BitsPlays', WHERE WHAT IT READS IS OF BULK AT MOST 1048576: true; the input reads as it did. -/
def bitsPlaysUptoRow : OpenClaim := { program := "ythkpnnbjcendcaa", sum := "34332b8b2ef65edf66148623d91d3bfef0863da06c086c54da7f025df6f7df5b", func := "marigraph/marigraphlaw02.BitsPlays", spec := "bitsPlays", apart := false, narrowed := true }
def BitsPlaysUptoSaid : Prop := bitsPlaysUptoRow.holds Try.pinned (OpenSpec.upto bitsPlaysSpec)

/-- 'marigraphlaw02.BitsStill', WHERE WHAT IT READS IS OF BULK AT MOST 1048576: true; the input reads as it did. -/
def bitsStillUptoRow : OpenClaim := { program := "ythkpnnbjcendcaa", sum := "34332b8b2ef65edf66148623d91d3bfef0863da06c086c54da7f025df6f7df5b", func := "marigraph/marigraphlaw02.BitsStill", spec := "bitsStill", apart := false, narrowed := true }
def BitsStillUptoSaid : Prop := bitsStillUptoRow.holds Try.pinned (OpenSpec.upto bitsStillSpec)

/-- 'marigraphlaw02.BitsBack', WHERE WHAT IT READS IS OF BULK AT MOST 1048576: true; the input reads as it did. -/
def bitsBackUptoRow : OpenClaim := { program := "ythkpnnbjcendcaa", sum := "34332b8b2ef65edf66148623d91d3bfef0863da06c086c54da7f025df6f7df5b", func := "marigraph/marigraphlaw02.BitsBack", spec := "bitsBack", apart := false, narrowed := true }
def BitsBackUptoSaid : Prop := bitsBackUptoRow.holds Try.pinned (OpenSpec.upto bitsBackSpec)

/-- 'marigraphlaw04.StepsPut', WHERE WHAT IT READS IS OF BULK AT MOST 1048576: true; the input reads as it did. -/
def stepsPutUptoRow : OpenClaim := { program := "ythkpnnbjcendcaa", sum := "34332b8b2ef65edf66148623d91d3bfef0863da06c086c54da7f025df6f7df5b", func := "marigraph/marigraphlaw04.StepsPut", spec := "stepsPut", apart := false, narrowed := true }
def StepsPutUptoSaid : Prop := stepsPutUptoRow.holds Try.pinned (OpenSpec.upto stepsPutSpec)

/-- 'marigraphlaw04.StepsSame', WHERE WHAT IT READS IS OF BULK AT MOST 1048576: true; the input reads as it did. -/
def stepsSameUptoRow : OpenClaim := { program := "ythkpnnbjcendcaa", sum := "34332b8b2ef65edf66148623d91d3bfef0863da06c086c54da7f025df6f7df5b", func := "marigraph/marigraphlaw04.StepsSame", spec := "stepsSame", apart := false, narrowed := true }
def StepsSameUptoSaid : Prop := stepsSameUptoRow.holds Try.pinned (OpenSpec.upto stepsSameSpec)

/-- 'marigraphlaw04.StepsLine', WHERE WHAT IT READS IS OF BULK AT MOST 1048576: true; the input reads as it did. -/
def stepsLineUptoRow : OpenClaim := { program := "ythkpnnbjcendcaa", sum := "34332b8b2ef65edf66148623d91d3bfef0863da06c086c54da7f025df6f7df5b", func := "marigraph/marigraphlaw04.StepsLine", spec := "stepsLine", apart := false, narrowed := true }
def StepsLineUptoSaid : Prop := stepsLineUptoRow.holds Try.pinned (OpenSpec.upto stepsLineSpec)

/-- 'marigraphlaw04.StepsShift', WHERE WHAT IT READS IS OF BULK AT MOST 1048576: true; the input reads as it did. -/
def stepsShiftUptoRow : OpenClaim := { program := "ythkpnnbjcendcaa", sum := "34332b8b2ef65edf66148623d91d3bfef0863da06c086c54da7f025df6f7df5b", func := "marigraph/marigraphlaw04.StepsShift", spec := "stepsShift", apart := false, narrowed := true }
def StepsShiftUptoSaid : Prop := stepsShiftUptoRow.holds Try.pinned (OpenSpec.upto stepsShiftSpec)

/-- 'marigraphlaw04.StepsSeconds', WHERE WHAT IT READS IS OF BULK AT MOST 1048576: true; the input reads as it did. -/
def stepsSecondsUptoRow : OpenClaim := { program := "ythkpnnbjcendcaa", sum := "34332b8b2ef65edf66148623d91d3bfef0863da06c086c54da7f025df6f7df5b", func := "marigraph/marigraphlaw04.StepsSeconds", spec := "stepsSeconds", apart := false, narrowed := true }
def StepsSecondsUptoSaid : Prop := stepsSecondsUptoRow.holds Try.pinned (OpenSpec.upto stepsSecondsSpec)

/-- 'marigraphlaw04.StepsTake', WHERE WHAT IT READS IS OF BULK AT MOST 1048576: true; the input reads as it did. -/
def stepsTakeUptoRow : OpenClaim := { program := "ythkpnnbjcendcaa", sum := "34332b8b2ef65edf66148623d91d3bfef0863da06c086c54da7f025df6f7df5b", func := "marigraph/marigraphlaw04.StepsTake", spec := "stepsTake", apart := false, narrowed := true }
def StepsTakeUptoSaid : Prop := stepsTakeUptoRow.holds Try.pinned (OpenSpec.upto stepsTakeSpec)

/-- 'marigraphlaw04.StepsBack', WHERE WHAT IT READS IS OF BULK AT MOST 1048576: true; the input reads as it did. -/
def stepsBackUptoRow : OpenClaim := { program := "ythkpnnbjcendcaa", sum := "34332b8b2ef65edf66148623d91d3bfef0863da06c086c54da7f025df6f7df5b", func := "marigraph/marigraphlaw04.StepsBack", spec := "stepsBack", apart := false, narrowed := true }
def StepsBackUptoSaid : Prop := stepsBackUptoRow.holds Try.pinned (OpenSpec.upto stepsBackSpec)

/-- 'marigraphlaw04.StepsCut', WHERE WHAT IT READS IS OF BULK AT MOST 1048576: true; the input reads as it did. -/
def stepsCutUptoRow : OpenClaim := { program := "ythkpnnbjcendcaa", sum := "34332b8b2ef65edf66148623d91d3bfef0863da06c086c54da7f025df6f7df5b", func := "marigraph/marigraphlaw04.StepsCut", spec := "stepsCut", apart := false, narrowed := true }
def StepsCutUptoSaid : Prop := stepsCutUptoRow.holds Try.pinned (OpenSpec.upto stepsCutSpec)

/-- 'marigraphlaw09.BlockTells', WHERE WHAT IT READS IS OF BULK AT MOST 1048576: true; the input reads as it did. -/
def blockTellsUptoRow : OpenClaim := { program := "ythkpnnbjcendcaa", sum := "34332b8b2ef65edf66148623d91d3bfef0863da06c086c54da7f025df6f7df5b", func := "marigraph/marigraphlaw09.BlockTells", spec := "blockTells", unfollowed := true, recurses := true, apart := false, narrowed := true }
def BlockTellsUptoSaid : Prop := blockTellsUptoRow.holds Try.pinned (OpenSpec.upto blockTellsSpec)

/-- 'marigraphlaw09.BlockRanges', WHERE WHAT IT READS IS OF BULK AT MOST 1048576: true; the input reads as it did. -/
def blockRangesUptoRow : OpenClaim := { program := "ythkpnnbjcendcaa", sum := "34332b8b2ef65edf66148623d91d3bfef0863da06c086c54da7f025df6f7df5b", func := "marigraph/marigraphlaw09.BlockRanges", spec := "blockRanges", unfollowed := true, recurses := true, apart := false, narrowed := true }
def BlockRangesUptoSaid : Prop := blockRangesUptoRow.holds Try.pinned (OpenSpec.upto blockRangesSpec)

/-- 'marigraphlaw09.BlockPuts', WHERE WHAT IT READS IS OF BULK AT MOST 1048576: true; the input reads as it did. -/
def blockPutsUptoRow : OpenClaim := { program := "ythkpnnbjcendcaa", sum := "34332b8b2ef65edf66148623d91d3bfef0863da06c086c54da7f025df6f7df5b", func := "marigraph/marigraphlaw09.BlockPuts", spec := "blockPuts", apart := false, narrowed := true }
def BlockPutsUptoSaid : Prop := blockPutsUptoRow.holds Try.pinned (OpenSpec.upto blockPutsSpec)

/-- 'marigraphlaw09.BlockTakes', WHERE WHAT IT READS IS OF BULK AT MOST 1048576: true; the input reads as it did. -/
def blockTakesUptoRow : OpenClaim := { program := "ythkpnnbjcendcaa", sum := "34332b8b2ef65edf66148623d91d3bfef0863da06c086c54da7f025df6f7df5b", func := "marigraph/marigraphlaw09.BlockTakes", spec := "blockTakes", apart := false, narrowed := true }
def BlockTakesUptoSaid : Prop := blockTakesUptoRow.holds Try.pinned (OpenSpec.upto blockTakesSpec)

/-- 'marigraphlaw09.BlockBack', WHERE WHAT IT READS IS OF BULK AT MOST 1048576: true; the input reads as it did. -/
def blockBackUptoRow : OpenClaim := { program := "ythkpnnbjcendcaa", sum := "34332b8b2ef65edf66148623d91d3bfef0863da06c086c54da7f025df6f7df5b", func := "marigraph/marigraphlaw09.BlockBack", spec := "blockBack", apart := false, narrowed := true }
def BlockBackUptoSaid : Prop := blockBackUptoRow.holds Try.pinned (OpenSpec.upto blockBackSpec)

/-- 'marigraphlaw09.BlockTurned', WHERE WHAT IT READS IS OF BULK AT MOST 1048576: true; the input reads as it did. -/
def blockTurnedUptoRow : OpenClaim := { program := "ythkpnnbjcendcaa", sum := "34332b8b2ef65edf66148623d91d3bfef0863da06c086c54da7f025df6f7df5b", func := "marigraph/marigraphlaw09.BlockTurned", spec := "blockTurned", apart := false, narrowed := true }
def BlockTurnedUptoSaid : Prop := blockTurnedUptoRow.holds Try.pinned (OpenSpec.upto blockTurnedSpec)

end Rows
end Go.Proofs.Ythkpnnbjcendcaa
