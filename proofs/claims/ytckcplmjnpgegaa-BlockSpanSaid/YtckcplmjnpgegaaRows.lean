/-
  No cell of these rows narrows 'for every input' (looked for: loops, veiled, ifaces, maps, wideKeys, modest, calm, conditions, laid).
  DERIVED. THE GIVEN ROWS OF THIS SEAT. 8 by the template 'for every input the law returns true; each argument reads behind the call as it read before'; 0 by the template 'total and deterministic' (their statements: YtckcplmjnpgegaaTotals.lean).
  GIVEN WITH THE SEED: the statements are not yours to turn. If you find one false, say at which input.
  Laid BY PROGRAM, IN A SANDBOX (cutbox-rows.mjs): the forced cells as the released guide's own fill.sh prints them over the translation d4f277773f75d759… (all of the seat's roots in one cut). By AI agents, Wed Nov 11 2026. No macro, syntax, notation, axiom, sorry.
-/
import Derived.Test.YtckcplmjnpgegaaChecked
import GoSem.Claim
import GoSem.ClaimJoined
import GoSem.ClaimMapViews
import Derived.JoinedTies
import Derived.KernelRfl
namespace Go.Proofs.Ytckcplmjnpgegaa
/- THE CELL 'sum', in the pinned program and in every row, IS THE sha256 OF THE DUMP (.gsa) THAT YtckcplmjnpgegaaProg.lean LOADS. Nothing in Lean hashes anything: it is a label: what it is worth is what the hold of that sum in a sandbox is worth. -/
noncomputable def Try.pinned : Pinned := { name := "ytckcplmjnpgegaa", sum := "d4f277773f75d7595149225a5cd48583b394a7a8e4e37688a2a784b2794f8e2a", checked := Try.checked }
namespace Rows
def none {H : Type} : Left H := { results := [], args := [] }

/-- 'marigraphlaw09.BlockCuts': WHATEVER THE INPUT: true; the input reads as it did. -/
def blockCutsSpec : ChangeSpec := { name := "blockCuts", fn := fun _ => fun
  | [d1, d2] => { results := [.lit (.bool true)], args := [d1, d2] }
  | _ => none }
def blockCutsRow : OpenClaim := { program := "ytckcplmjnpgegaa", sum := "d4f277773f75d7595149225a5cd48583b394a7a8e4e37688a2a784b2794f8e2a", func := "marigraph/marigraphlaw09.BlockCuts", spec := "blockCuts", apart := false }
def BlockCutsSaid : Prop := blockCutsRow.holds Try.pinned (OpenSpec.ofChange blockCutsSpec)

/-- ITS FALSE NEIGHBOUR: 'it returns false'. Refute it at one input. -/
def blockCutsWrong : ChangeSpec := { name := "blockCuts", fn := fun _ => fun
  | [d1, d2] => { results := [.lit (.bool false)], args := [d1, d2] }
  | _ => none }
def BlockCutsWrongFalsely : Prop := blockCutsRow.holds Try.pinned (OpenSpec.ofChange blockCutsWrong)

/-- 'marigraphlaw09.BlockSpan': WHATEVER THE INPUT: true; the input reads as it did. -/
def blockSpanSpec : ChangeSpec := { name := "blockSpan", fn := fun _ => fun
  | [d1, d2, d3] => { results := [.lit (.bool true)], args := [d1, d2, d3] }
  | _ => none }
def blockSpanRow : OpenClaim := { program := "ytckcplmjnpgegaa", sum := "d4f277773f75d7595149225a5cd48583b394a7a8e4e37688a2a784b2794f8e2a", func := "marigraph/marigraphlaw09.BlockSpan", spec := "blockSpan", apart := false }
def BlockSpanSaid : Prop := blockSpanRow.holds Try.pinned (OpenSpec.ofChange blockSpanSpec)

/-- ITS FALSE NEIGHBOUR: 'it returns false'. Refute it at one input. -/
def blockSpanWrong : ChangeSpec := { name := "blockSpan", fn := fun _ => fun
  | [d1, d2, d3] => { results := [.lit (.bool false)], args := [d1, d2, d3] }
  | _ => none }
def BlockSpanWrongFalsely : Prop := blockSpanRow.holds Try.pinned (OpenSpec.ofChange blockSpanWrong)

/-- 'marigraphlaw09.BlockTells': WHATEVER THE INPUT: true; the input reads as it did. -/
def blockTellsSpec : ChangeSpec := { name := "blockTells", fn := fun _ => fun
  | [d1, d2, d3, d4, d5, d6] => { results := [.lit (.bool true)], args := [d1, d2, d3, d4, d5, d6] }
  | _ => none }
def blockTellsRow : OpenClaim := { program := "ytckcplmjnpgegaa", sum := "d4f277773f75d7595149225a5cd48583b394a7a8e4e37688a2a784b2794f8e2a", func := "marigraph/marigraphlaw09.BlockTells", spec := "blockTells", unfollowed := true, recurses := true, apart := false }
def BlockTellsSaid : Prop := blockTellsRow.holds Try.pinned (OpenSpec.ofChange blockTellsSpec)

/-- ITS FALSE NEIGHBOUR: 'it returns false'. Refute it at one input. -/
def blockTellsWrong : ChangeSpec := { name := "blockTells", fn := fun _ => fun
  | [d1, d2, d3, d4, d5, d6] => { results := [.lit (.bool false)], args := [d1, d2, d3, d4, d5, d6] }
  | _ => none }
def BlockTellsWrongFalsely : Prop := blockTellsRow.holds Try.pinned (OpenSpec.ofChange blockTellsWrong)

/-- 'marigraphlaw09.BlockRanges': WHATEVER THE INPUT: true; the input reads as it did. -/
def blockRangesSpec : ChangeSpec := { name := "blockRanges", fn := fun _ => fun
  | [d1, d2, d3] => { results := [.lit (.bool true)], args := [d1, d2, d3] }
  | _ => none }
def blockRangesRow : OpenClaim := { program := "ytckcplmjnpgegaa", sum := "d4f277773f75d7595149225a5cd48583b394a7a8e4e37688a2a784b2794f8e2a", func := "marigraph/marigraphlaw09.BlockRanges", spec := "blockRanges", unfollowed := true, recurses := true, apart := false }
def BlockRangesSaid : Prop := blockRangesRow.holds Try.pinned (OpenSpec.ofChange blockRangesSpec)

/-- ITS FALSE NEIGHBOUR: 'it returns false'. Refute it at one input. -/
def blockRangesWrong : ChangeSpec := { name := "blockRanges", fn := fun _ => fun
  | [d1, d2, d3] => { results := [.lit (.bool false)], args := [d1, d2, d3] }
  | _ => none }
def BlockRangesWrongFalsely : Prop := blockRangesRow.holds Try.pinned (OpenSpec.ofChange blockRangesWrong)

/-- 'marigraphlaw09.BlockPuts': WHATEVER THE INPUT: true; the input reads as it did. -/
def blockPutsSpec : ChangeSpec := { name := "blockPuts", fn := fun _ => fun
  | [d] => { results := [.lit (.bool true)], args := [d] }
  | _ => none }
def blockPutsRow : OpenClaim := { program := "ytckcplmjnpgegaa", sum := "d4f277773f75d7595149225a5cd48583b394a7a8e4e37688a2a784b2794f8e2a", func := "marigraph/marigraphlaw09.BlockPuts", spec := "blockPuts", apart := false }
def BlockPutsSaid : Prop := blockPutsRow.holds Try.pinned (OpenSpec.ofChange blockPutsSpec)

/-- ITS FALSE NEIGHBOUR: 'it returns false'. Refute it at one input. -/
def blockPutsWrong : ChangeSpec := { name := "blockPuts", fn := fun _ => fun
  | [d] => { results := [.lit (.bool false)], args := [d] }
  | _ => none }
def BlockPutsWrongFalsely : Prop := blockPutsRow.holds Try.pinned (OpenSpec.ofChange blockPutsWrong)

/-- 'marigraphlaw09.BlockTakes': WHATEVER THE INPUT: true; the input reads as it did. -/
def blockTakesSpec : ChangeSpec := { name := "blockTakes", fn := fun _ => fun
  | [d] => { results := [.lit (.bool true)], args := [d] }
  | _ => none }
def blockTakesRow : OpenClaim := { program := "ytckcplmjnpgegaa", sum := "d4f277773f75d7595149225a5cd48583b394a7a8e4e37688a2a784b2794f8e2a", func := "marigraph/marigraphlaw09.BlockTakes", spec := "blockTakes", apart := false }
def BlockTakesSaid : Prop := blockTakesRow.holds Try.pinned (OpenSpec.ofChange blockTakesSpec)

/-- ITS FALSE NEIGHBOUR: 'it returns false'. Refute it at one input. -/
def blockTakesWrong : ChangeSpec := { name := "blockTakes", fn := fun _ => fun
  | [d] => { results := [.lit (.bool false)], args := [d] }
  | _ => none }
def BlockTakesWrongFalsely : Prop := blockTakesRow.holds Try.pinned (OpenSpec.ofChange blockTakesWrong)

/-- 'marigraphlaw09.BlockBack': WHATEVER THE INPUT: true; the input reads as it did. -/
def blockBackSpec : ChangeSpec := { name := "blockBack", fn := fun _ => fun
  | [d1, d2] => { results := [.lit (.bool true)], args := [d1, d2] }
  | _ => none }
def blockBackRow : OpenClaim := { program := "ytckcplmjnpgegaa", sum := "d4f277773f75d7595149225a5cd48583b394a7a8e4e37688a2a784b2794f8e2a", func := "marigraph/marigraphlaw09.BlockBack", spec := "blockBack", apart := false }
def BlockBackSaid : Prop := blockBackRow.holds Try.pinned (OpenSpec.ofChange blockBackSpec)

/-- ITS FALSE NEIGHBOUR: 'it returns false'. Refute it at one input. -/
def blockBackWrong : ChangeSpec := { name := "blockBack", fn := fun _ => fun
  | [d1, d2] => { results := [.lit (.bool false)], args := [d1, d2] }
  | _ => none }
def BlockBackWrongFalsely : Prop := blockBackRow.holds Try.pinned (OpenSpec.ofChange blockBackWrong)

/-- 'marigraphlaw09.BlockTurned': WHATEVER THE INPUT: true; the input reads as it did. -/
def blockTurnedSpec : ChangeSpec := { name := "blockTurned", fn := fun _ => fun
  | [d1, d2, d3, d4] => { results := [.lit (.bool true)], args := [d1, d2, d3, d4] }
  | _ => none }
def blockTurnedRow : OpenClaim := { program := "ytckcplmjnpgegaa", sum := "d4f277773f75d7595149225a5cd48583b394a7a8e4e37688a2a784b2794f8e2a", func := "marigraph/marigraphlaw09.BlockTurned", spec := "blockTurned", apart := false }
def BlockTurnedSaid : Prop := blockTurnedRow.holds Try.pinned (OpenSpec.ofChange blockTurnedSpec)

/-- ITS FALSE NEIGHBOUR: 'it returns false'. Refute it at one input. -/
def blockTurnedWrong : ChangeSpec := { name := "blockTurned", fn := fun _ => fun
  | [d1, d2, d3, d4] => { results := [.lit (.bool false)], args := [d1, d2, d3, d4] }
  | _ => none }
def BlockTurnedWrongFalsely : Prop := blockTurnedRow.holds Try.pinned (OpenSpec.ofChange blockTurnedWrong)

/- THE SECOND FORM. 'bulk': how many values and letters a reading holds, each counted each time it is reached (what is shared counts as often as it is met; a slice's spare places count too). A statement '..UptoSaid' is the law's where the arguments, and the package variables that the reading takes, are together of bulk at most 1048576: NARROWER than '..Said'. Prove '..Said' where nothing that the law and all that it calls make is longer than what came in: it says more and counts as full. Else prove '..UptoSaid'. A law counts once. -/
mutual
def uptoBulk {H : Type} : DataW H → Nat
  | .lit (.string bytes) => bytes.length + 1
  | .lit _ => 1
  | .nil => 1
  | .ptr d => uptoBulk d + 1
  | .slice elems spare => uptoBulkAll elems + uptoBulkAll spare + 1
  | .agg parts => uptoBulkAll parts + 1
  | .iface _ d => uptoBulk d + 1
  | .map entries => uptoBulkEntries entries + 1
  | .held _ => 1
def uptoBulkAll {H : Type} : List (DataW H) → Nat
  | [] => 0
  | d :: r => uptoBulk d + uptoBulkAll r
def uptoBulkEntries {H : Type} : List (Lit × DataW H) → Nat
  | [] => 0
  | x :: r => uptoBulkEntry x + uptoBulkEntries r
def uptoBulkEntry {H : Type} : Lit × DataW H → Nat
  | (.string bytes, d) => bytes.length + uptoBulk d + 1
  | (_, d) => uptoBulk d + 1
 end
def uptoSmall : (H : Type) → List (DataW H) → Bool := fun _ ds => decide (uptoBulkAll ds ≤ 1048576)
def OpenSpec.upto (s : _root_.Go.ChangeSpec) : _root_.Go.OpenSpec := { _root_.Go.OpenSpec.ofChange s with cond := some uptoSmall }

/-- 'marigraphlaw09.BlockCuts', WHERE WHAT IT READS IS OF BULK AT MOST 1048576: true; the input reads as it did. -/
def blockCutsUptoRow : OpenClaim := { program := "ytckcplmjnpgegaa", sum := "d4f277773f75d7595149225a5cd48583b394a7a8e4e37688a2a784b2794f8e2a", func := "marigraph/marigraphlaw09.BlockCuts", spec := "blockCuts", apart := false, narrowed := true }
def BlockCutsUptoSaid : Prop := blockCutsUptoRow.holds Try.pinned (OpenSpec.upto blockCutsSpec)

/-- 'marigraphlaw09.BlockSpan', WHERE WHAT IT READS IS OF BULK AT MOST 1048576: true; the input reads as it did. -/
def blockSpanUptoRow : OpenClaim := { program := "ytckcplmjnpgegaa", sum := "d4f277773f75d7595149225a5cd48583b394a7a8e4e37688a2a784b2794f8e2a", func := "marigraph/marigraphlaw09.BlockSpan", spec := "blockSpan", apart := false, narrowed := true }
def BlockSpanUptoSaid : Prop := blockSpanUptoRow.holds Try.pinned (OpenSpec.upto blockSpanSpec)

/-- 'marigraphlaw09.BlockTells', WHERE WHAT IT READS IS OF BULK AT MOST 1048576: true; the input reads as it did. -/
def blockTellsUptoRow : OpenClaim := { program := "ytckcplmjnpgegaa", sum := "d4f277773f75d7595149225a5cd48583b394a7a8e4e37688a2a784b2794f8e2a", func := "marigraph/marigraphlaw09.BlockTells", spec := "blockTells", unfollowed := true, recurses := true, apart := false, narrowed := true }
def BlockTellsUptoSaid : Prop := blockTellsUptoRow.holds Try.pinned (OpenSpec.upto blockTellsSpec)

/-- 'marigraphlaw09.BlockRanges', WHERE WHAT IT READS IS OF BULK AT MOST 1048576: true; the input reads as it did. -/
def blockRangesUptoRow : OpenClaim := { program := "ytckcplmjnpgegaa", sum := "d4f277773f75d7595149225a5cd48583b394a7a8e4e37688a2a784b2794f8e2a", func := "marigraph/marigraphlaw09.BlockRanges", spec := "blockRanges", unfollowed := true, recurses := true, apart := false, narrowed := true }
def BlockRangesUptoSaid : Prop := blockRangesUptoRow.holds Try.pinned (OpenSpec.upto blockRangesSpec)

/-- 'marigraphlaw09.BlockPuts', WHERE WHAT IT READS IS OF BULK AT MOST 1048576: true; the input reads as it did. -/
def blockPutsUptoRow : OpenClaim := { program := "ytckcplmjnpgegaa", sum := "d4f277773f75d7595149225a5cd48583b394a7a8e4e37688a2a784b2794f8e2a", func := "marigraph/marigraphlaw09.BlockPuts", spec := "blockPuts", apart := false, narrowed := true }
def BlockPutsUptoSaid : Prop := blockPutsUptoRow.holds Try.pinned (OpenSpec.upto blockPutsSpec)

/-- 'marigraphlaw09.BlockTakes', WHERE WHAT IT READS IS OF BULK AT MOST 1048576: true; the input reads as it did. -/
def blockTakesUptoRow : OpenClaim := { program := "ytckcplmjnpgegaa", sum := "d4f277773f75d7595149225a5cd48583b394a7a8e4e37688a2a784b2794f8e2a", func := "marigraph/marigraphlaw09.BlockTakes", spec := "blockTakes", apart := false, narrowed := true }
def BlockTakesUptoSaid : Prop := blockTakesUptoRow.holds Try.pinned (OpenSpec.upto blockTakesSpec)

/-- 'marigraphlaw09.BlockBack', WHERE WHAT IT READS IS OF BULK AT MOST 1048576: true; the input reads as it did. -/
def blockBackUptoRow : OpenClaim := { program := "ytckcplmjnpgegaa", sum := "d4f277773f75d7595149225a5cd48583b394a7a8e4e37688a2a784b2794f8e2a", func := "marigraph/marigraphlaw09.BlockBack", spec := "blockBack", apart := false, narrowed := true }
def BlockBackUptoSaid : Prop := blockBackUptoRow.holds Try.pinned (OpenSpec.upto blockBackSpec)

/-- 'marigraphlaw09.BlockTurned', WHERE WHAT IT READS IS OF BULK AT MOST 1048576: true; the input reads as it did. -/
def blockTurnedUptoRow : OpenClaim := { program := "ytckcplmjnpgegaa", sum := "d4f277773f75d7595149225a5cd48583b394a7a8e4e37688a2a784b2794f8e2a", func := "marigraph/marigraphlaw09.BlockTurned", spec := "blockTurned", apart := false, narrowed := true }
def BlockTurnedUptoSaid : Prop := blockTurnedUptoRow.holds Try.pinned (OpenSpec.upto blockTurnedSpec)

end Rows
end Go.Proofs.Ytckcplmjnpgegaa
