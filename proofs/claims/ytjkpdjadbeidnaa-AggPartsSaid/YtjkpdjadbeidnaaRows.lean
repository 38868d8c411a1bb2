/-
  No cell of these rows narrows 'for every input' (looked for: loops, veiled, ifaces, maps, wideKeys, modest, calm, conditions, laid).
  DERIVED. THE GIVEN ROWS OF THIS SEAT. 15 by the template 'for every input the law returns true; each argument reads behind the call as it read before'; 0 by the template 'total and deterministic' (their statements: YtjkpdjadbeidnaaTotals.lean).
  GIVEN WITH THE SEED: the statements are not yours to turn. If you find one false, say at which input.
  Laid BY PROGRAM, IN A SANDBOX (cutbox-rows.mjs): the forced cells as the released guide's own fill.sh prints them over the translation 7df7888a3646337d… (all of the seat's roots in one cut). By AI agents, Wed Nov 11 2026. No macro, syntax, notation, axiom, sorry.
-/
import Derived.Test.YtjkpdjadbeidnaaChecked
import GoSem.Claim
import GoSem.ClaimJoined
import GoSem.ClaimMapViews
import Derived.JoinedTies
import Derived.KernelRfl
namespace Go.Proofs.Ytjkpdjadbeidnaa
/- THE CELL 'sum', in the pinned program and in every row, IS THE sha256 OF THE DUMP (.gsa) THAT YtjkpdjadbeidnaaProg.lean LOADS. Nothing in Lean hashes anything: it is a label: what it is worth is what the hold of that sum in a sandbox is worth. -/
noncomputable def Try.pinned : Pinned := { name := "ytjkpdjadbeidnaa", sum := "7df7888a3646337d81c611d7d7c8bf537b35af6facf91c9f0c962686ee84f957", checked := Try.checked }
namespace Rows
def none {H : Type} : Left H := { results := [], args := [] }

/-- 'marigraphlaw13.TurnQuarters': WHATEVER THE INPUT: true; the input reads as it did. -/
def turnQuartersSpec : ChangeSpec := { name := "turnQuarters", fn := fun _ => fun
  | [d1, d2] => { results := [.lit (.bool true)], args := [d1, d2] }
  | _ => none }
def turnQuartersRow : OpenClaim := { program := "ytjkpdjadbeidnaa", sum := "7df7888a3646337d81c611d7d7c8bf537b35af6facf91c9f0c962686ee84f957", func := "marigraph/marigraphlaw13.TurnQuarters", spec := "turnQuarters", apart := false }
def TurnQuartersSaid : Prop := turnQuartersRow.holds Try.pinned (OpenSpec.ofChange turnQuartersSpec)

/-- ITS FALSE NEIGHBOUR: 'it returns false'. Refute it at one input. -/
def turnQuartersWrong : ChangeSpec := { name := "turnQuarters", fn := fun _ => fun
  | [d1, d2] => { results := [.lit (.bool false)], args := [d1, d2] }
  | _ => none }
def TurnQuartersWrongFalsely : Prop := turnQuartersRow.holds Try.pinned (OpenSpec.ofChange turnQuartersWrong)

/-- 'marigraphlaw13.TurnRound': WHATEVER THE INPUT: true; the input reads as it did. -/
def turnRoundSpec : ChangeSpec := { name := "turnRound", fn := fun _ => fun
  | [d1, d2, d3, d4] => { results := [.lit (.bool true)], args := [d1, d2, d3, d4] }
  | _ => none }
def turnRoundRow : OpenClaim := { program := "ytjkpdjadbeidnaa", sum := "7df7888a3646337d81c611d7d7c8bf537b35af6facf91c9f0c962686ee84f957", func := "marigraph/marigraphlaw13.TurnRound", spec := "turnRound", apart := false }
def TurnRoundSaid : Prop := turnRoundRow.holds Try.pinned (OpenSpec.ofChange turnRoundSpec)

/-- ITS FALSE NEIGHBOUR: 'it returns false'. Refute it at one input. -/
def turnRoundWrong : ChangeSpec := { name := "turnRound", fn := fun _ => fun
  | [d1, d2, d3, d4] => { results := [.lit (.bool false)], args := [d1, d2, d3, d4] }
  | _ => none }
def TurnRoundWrongFalsely : Prop := turnRoundRow.holds Try.pinned (OpenSpec.ofChange turnRoundWrong)

/-- 'marigraphlaw13.TurnLater': WHATEVER THE INPUT: true; the input reads as it did. -/
def turnLaterSpec : ChangeSpec := { name := "turnLater", fn := fun _ => fun
  | [d1, d2] => { results := [.lit (.bool true)], args := [d1, d2] }
  | _ => none }
def turnLaterRow : OpenClaim := { program := "ytjkpdjadbeidnaa", sum := "7df7888a3646337d81c611d7d7c8bf537b35af6facf91c9f0c962686ee84f957", func := "marigraph/marigraphlaw13.TurnLater", spec := "turnLater", apart := false }
def TurnLaterSaid : Prop := turnLaterRow.holds Try.pinned (OpenSpec.ofChange turnLaterSpec)

/-- ITS FALSE NEIGHBOUR: 'it returns false'. Refute it at one input. -/
def turnLaterWrong : ChangeSpec := { name := "turnLater", fn := fun _ => fun
  | [d1, d2] => { results := [.lit (.bool false)], args := [d1, d2] }
  | _ => none }
def TurnLaterWrongFalsely : Prop := turnLaterRow.holds Try.pinned (OpenSpec.ofChange turnLaterWrong)

/-- 'marigraphlaw13.TurnParts': WHATEVER THE INPUT: true; the input reads as it did. -/
def turnPartsSpec : ChangeSpec := { name := "turnParts", fn := fun _ => fun
  | [d1, d2, d3] => { results := [.lit (.bool true)], args := [d1, d2, d3] }
  | _ => none }
def turnPartsRow : OpenClaim := { program := "ytjkpdjadbeidnaa", sum := "7df7888a3646337d81c611d7d7c8bf537b35af6facf91c9f0c962686ee84f957", func := "marigraph/marigraphlaw13.TurnParts", spec := "turnParts", apart := false }
def TurnPartsSaid : Prop := turnPartsRow.holds Try.pinned (OpenSpec.ofChange turnPartsSpec)

/-- ITS FALSE NEIGHBOUR: 'it returns false'. Refute it at one input. -/
def turnPartsWrong : ChangeSpec := { name := "turnParts", fn := fun _ => fun
  | [d1, d2, d3] => { results := [.lit (.bool false)], args := [d1, d2, d3] }
  | _ => none }
def TurnPartsWrongFalsely : Prop := turnPartsRow.holds Try.pinned (OpenSpec.ofChange turnPartsWrong)

/-- 'marigraphlaw13.TurnFlat': WHATEVER THE INPUT: true; the input reads as it did. -/
def turnFlatSpec : ChangeSpec := { name := "turnFlat", fn := fun _ => fun
  | [d1, d2, d3] => { results := [.lit (.bool true)], args := [d1, d2, d3] }
  | _ => none }
def turnFlatRow : OpenClaim := { program := "ytjkpdjadbeidnaa", sum := "7df7888a3646337d81c611d7d7c8bf537b35af6facf91c9f0c962686ee84f957", func := "marigraph/marigraphlaw13.TurnFlat", spec := "turnFlat", apart := false }
def TurnFlatSaid : Prop := turnFlatRow.holds Try.pinned (OpenSpec.ofChange turnFlatSpec)

/-- ITS FALSE NEIGHBOUR: 'it returns false'. Refute it at one input. -/
def turnFlatWrong : ChangeSpec := { name := "turnFlat", fn := fun _ => fun
  | [d1, d2, d3] => { results := [.lit (.bool false)], args := [d1, d2, d3] }
  | _ => none }
def TurnFlatWrongFalsely : Prop := turnFlatRow.holds Try.pinned (OpenSpec.ofChange turnFlatWrong)

/-- 'marigraphlaw13.TurnBy': WHATEVER THE INPUT: true; the input reads as it did. -/
def turnBySpec : ChangeSpec := { name := "turnBy", fn := fun _ => fun
  | [d1, d2, d3] => { results := [.lit (.bool true)], args := [d1, d2, d3] }
  | _ => none }
def turnByRow : OpenClaim := { program := "ytjkpdjadbeidnaa", sum := "7df7888a3646337d81c611d7d7c8bf537b35af6facf91c9f0c962686ee84f957", func := "marigraph/marigraphlaw13.TurnBy", spec := "turnBy", apart := false }
def TurnBySaid : Prop := turnByRow.holds Try.pinned (OpenSpec.ofChange turnBySpec)

/-- ITS FALSE NEIGHBOUR: 'it returns false'. Refute it at one input. -/
def turnByWrong : ChangeSpec := { name := "turnBy", fn := fun _ => fun
  | [d1, d2, d3] => { results := [.lit (.bool false)], args := [d1, d2, d3] }
  | _ => none }
def TurnByWrongFalsely : Prop := turnByRow.holds Try.pinned (OpenSpec.ofChange turnByWrong)

/-- 'marigraphlaw13.TurnOf': WHATEVER THE INPUT: true; the input reads as it did. -/
def turnOfSpec : ChangeSpec := { name := "turnOf", fn := fun _ => fun
  | [d1, d2] => { results := [.lit (.bool true)], args := [d1, d2] }
  | _ => none }
def turnOfRow : OpenClaim := { program := "ytjkpdjadbeidnaa", sum := "7df7888a3646337d81c611d7d7c8bf537b35af6facf91c9f0c962686ee84f957", func := "marigraph/marigraphlaw13.TurnOf", spec := "turnOf", apart := false }
def TurnOfSaid : Prop := turnOfRow.holds Try.pinned (OpenSpec.ofChange turnOfSpec)

/-- ITS FALSE NEIGHBOUR: 'it returns false'. Refute it at one input. -/
def turnOfWrong : ChangeSpec := { name := "turnOf", fn := fun _ => fun
  | [d1, d2] => { results := [.lit (.bool false)], args := [d1, d2] }
  | _ => none }
def TurnOfWrongFalsely : Prop := turnOfRow.holds Try.pinned (OpenSpec.ofChange turnOfWrong)

/-- 'marigraphlaw12.AggOf': WHATEVER THE INPUT: true; the input reads as it did. -/
def aggOfSpec : ChangeSpec := { name := "aggOf", fn := fun _ => fun
  | [d1, d2, d3] => { results := [.lit (.bool true)], args := [d1, d2, d3] }
  | _ => none }
def aggOfRow : OpenClaim := { program := "ytjkpdjadbeidnaa", sum := "7df7888a3646337d81c611d7d7c8bf537b35af6facf91c9f0c962686ee84f957", func := "marigraph/marigraphlaw12.AggOf", spec := "aggOf", unfollowed := true, recurses := true, apart := false }
def AggOfSaid : Prop := aggOfRow.holds Try.pinned (OpenSpec.ofChange aggOfSpec)

/-- ITS FALSE NEIGHBOUR: 'it returns false'. Refute it at one input. -/
def aggOfWrong : ChangeSpec := { name := "aggOf", fn := fun _ => fun
  | [d1, d2, d3] => { results := [.lit (.bool false)], args := [d1, d2, d3] }
  | _ => none }
def AggOfWrongFalsely : Prop := aggOfRow.holds Try.pinned (OpenSpec.ofChange aggOfWrong)

/-- 'marigraphlaw12.AggRollup': WHATEVER THE INPUT: true; the input reads as it did. -/
def aggRollupSpec : ChangeSpec := { name := "aggRollup", fn := fun _ => fun
  | [d1, d2, d3] => { results := [.lit (.bool true)], args := [d1, d2, d3] }
  | _ => none }
def aggRollupRow : OpenClaim := { program := "ytjkpdjadbeidnaa", sum := "7df7888a3646337d81c611d7d7c8bf537b35af6facf91c9f0c962686ee84f957", func := "marigraph/marigraphlaw12.AggRollup", spec := "aggRollup", unfollowed := true, recurses := true, apart := false }
def AggRollupSaid : Prop := aggRollupRow.holds Try.pinned (OpenSpec.ofChange aggRollupSpec)

/-- ITS FALSE NEIGHBOUR: 'it returns false'. Refute it at one input. -/
def aggRollupWrong : ChangeSpec := { name := "aggRollup", fn := fun _ => fun
  | [d1, d2, d3] => { results := [.lit (.bool false)], args := [d1, d2, d3] }
  | _ => none }
def AggRollupWrongFalsely : Prop := aggRollupRow.holds Try.pinned (OpenSpec.ofChange aggRollupWrong)

/-- 'marigraphlaw12.AggParts': WHATEVER THE INPUT: true; the input reads as it did. -/
def aggPartsSpec : ChangeSpec := { name := "aggParts", fn := fun _ => fun
  | [d1, d2, d3] => { results := [.lit (.bool true)], args := [d1, d2, d3] }
  | _ => none }
def aggPartsRow : OpenClaim := { program := "ytjkpdjadbeidnaa", sum := "7df7888a3646337d81c611d7d7c8bf537b35af6facf91c9f0c962686ee84f957", func := "marigraph/marigraphlaw12.AggParts", spec := "aggParts", unfollowed := true, recurses := true, apart := false }
def AggPartsSaid : Prop := aggPartsRow.holds Try.pinned (OpenSpec.ofChange aggPartsSpec)

/-- ITS FALSE NEIGHBOUR: 'it returns false'. Refute it at one input. -/
def aggPartsWrong : ChangeSpec := { name := "aggParts", fn := fun _ => fun
  | [d1, d2, d3] => { results := [.lit (.bool false)], args := [d1, d2, d3] }
  | _ => none }
def AggPartsWrongFalsely : Prop := aggPartsRow.holds Try.pinned (OpenSpec.ofChange aggPartsWrong)

/-- 'marigraphlaw12.AggTwice': WHATEVER THE INPUT: true; the input reads as it did. -/
def aggTwiceSpec : ChangeSpec := { name := "aggTwice", fn := fun _ => fun
  | [d1, d2, d3] => { results := [.lit (.bool true)], args := [d1, d2, d3] }
  | _ => none }
def aggTwiceRow : OpenClaim := { program := "ytjkpdjadbeidnaa", sum := "7df7888a3646337d81c611d7d7c8bf537b35af6facf91c9f0c962686ee84f957", func := "marigraph/marigraphlaw12.AggTwice", spec := "aggTwice", unfollowed := true, recurses := true, apart := false }
def AggTwiceSaid : Prop := aggTwiceRow.holds Try.pinned (OpenSpec.ofChange aggTwiceSpec)

/-- ITS FALSE NEIGHBOUR: 'it returns false'. Refute it at one input. -/
def aggTwiceWrong : ChangeSpec := { name := "aggTwice", fn := fun _ => fun
  | [d1, d2, d3] => { results := [.lit (.bool false)], args := [d1, d2, d3] }
  | _ => none }
def AggTwiceWrongFalsely : Prop := aggTwiceRow.holds Try.pinned (OpenSpec.ofChange aggTwiceWrong)

/-- 'marigraphlaw12.AggShift': WHATEVER THE INPUT: true; the input reads as it did. -/
def aggShiftSpec : ChangeSpec := { name := "aggShift", fn := fun _ => fun
  | [d1, d2, d3, d4] => { results := [.lit (.bool true)], args := [d1, d2, d3, d4] }
  | _ => none }
def aggShiftRow : OpenClaim := { program := "ytjkpdjadbeidnaa", sum := "7df7888a3646337d81c611d7d7c8bf537b35af6facf91c9f0c962686ee84f957", func := "marigraph/marigraphlaw12.AggShift", spec := "aggShift", unfollowed := true, recurses := true, apart := false }
def AggShiftSaid : Prop := aggShiftRow.holds Try.pinned (OpenSpec.ofChange aggShiftSpec)

/-- ITS FALSE NEIGHBOUR: 'it returns false'. Refute it at one input. -/
def aggShiftWrong : ChangeSpec := { name := "aggShift", fn := fun _ => fun
  | [d1, d2, d3, d4] => { results := [.lit (.bool false)], args := [d1, d2, d3, d4] }
  | _ => none }
def AggShiftWrongFalsely : Prop := aggShiftRow.holds Try.pinned (OpenSpec.ofChange aggShiftWrong)

/-- 'marigraphlaw12.AggBuckets': WHATEVER THE INPUT: true; the input reads as it did. -/
def aggBucketsSpec : ChangeSpec := { name := "aggBuckets", fn := fun _ => fun
  | [d1, d2, d3, d4] => { results := [.lit (.bool true)], args := [d1, d2, d3, d4] }
  | _ => none }
def aggBucketsRow : OpenClaim := { program := "ytjkpdjadbeidnaa", sum := "7df7888a3646337d81c611d7d7c8bf537b35af6facf91c9f0c962686ee84f957", func := "marigraph/marigraphlaw12.AggBuckets", spec := "aggBuckets", unfollowed := true, recurses := true, apart := false }
def AggBucketsSaid : Prop := aggBucketsRow.holds Try.pinned (OpenSpec.ofChange aggBucketsSpec)

/-- ITS FALSE NEIGHBOUR: 'it returns false'. Refute it at one input. -/
def aggBucketsWrong : ChangeSpec := { name := "aggBuckets", fn := fun _ => fun
  | [d1, d2, d3, d4] => { results := [.lit (.bool false)], args := [d1, d2, d3, d4] }
  | _ => none }
def AggBucketsWrongFalsely : Prop := aggBucketsRow.holds Try.pinned (OpenSpec.ofChange aggBucketsWrong)

/-- 'marigraphlaw12.AggWhole': WHATEVER THE INPUT: true; the input reads as it did. -/
def aggWholeSpec : ChangeSpec := { name := "aggWhole", fn := fun _ => fun
  | [d1, d2, d3, d4] => { results := [.lit (.bool true)], args := [d1, d2, d3, d4] }
  | _ => none }
def aggWholeRow : OpenClaim := { program := "ytjkpdjadbeidnaa", sum := "7df7888a3646337d81c611d7d7c8bf537b35af6facf91c9f0c962686ee84f957", func := "marigraph/marigraphlaw12.AggWhole", spec := "aggWhole", unfollowed := true, recurses := true, apart := false }
def AggWholeSaid : Prop := aggWholeRow.holds Try.pinned (OpenSpec.ofChange aggWholeSpec)

/-- ITS FALSE NEIGHBOUR: 'it returns false'. Refute it at one input. -/
def aggWholeWrong : ChangeSpec := { name := "aggWhole", fn := fun _ => fun
  | [d1, d2, d3, d4] => { results := [.lit (.bool false)], args := [d1, d2, d3, d4] }
  | _ => none }
def AggWholeWrongFalsely : Prop := aggWholeRow.holds Try.pinned (OpenSpec.ofChange aggWholeWrong)

/-- 'marigraphlaw12.AggOne': WHATEVER THE INPUT: true; the input reads as it did. -/
def aggOneSpec : ChangeSpec := { name := "aggOne", fn := fun _ => fun
  | [d] => { results := [.lit (.bool true)], args := [d] }
  | _ => none }
def aggOneRow : OpenClaim := { program := "ytjkpdjadbeidnaa", sum := "7df7888a3646337d81c611d7d7c8bf537b35af6facf91c9f0c962686ee84f957", func := "marigraph/marigraphlaw12.AggOne", spec := "aggOne", unfollowed := true, recurses := true, apart := false }
def AggOneSaid : Prop := aggOneRow.holds Try.pinned (OpenSpec.ofChange aggOneSpec)

/-- ITS FALSE NEIGHBOUR: 'it returns false'. Refute it at one input. -/
def aggOneWrong : ChangeSpec := { name := "aggOne", fn := fun _ => fun
  | [d] => { results := [.lit (.bool false)], args := [d] }
  | _ => none }
def AggOneWrongFalsely : Prop := aggOneRow.holds Try.pinned (OpenSpec.ofChange aggOneWrong)

/- THE SECOND FORM. 'bulk': how many values and letters a reading holds, each counted each time it is reached (what is shared counts as often as it is met; a slice's spare places count too). A statement '..UptoSaid' is the law's where the arguments, and the package variables that the reading takes, are together of bulk at most 1048576: NARROWER than '..Said'. Prove '..Said' where nothing that the law and all that it calls make is longer than what came in: it says more and counts as full. Else prove '..UptoSaid'. A law counts once. -/
mutual
def uptoBulk {H : Type} : DataW H → Nat
  | .lit (.string bytes) => bytes.length + 1
  | .lit _ => 1
  | .nil => 1
  | .ptr d => uptoBulk d + 1
  | .slice elems spare => uptoBulkAll elems + uptoBulkAll spare + 1
  | .agg parts => uptoBulkAll parts + 1
  | .iface _ d => uptoBulk d + 1
  | .map entries => uptoBulkEntries entries + 1
  | .held _ => 1
def uptoBulkAll {H : Type} : List (DataW H) → Nat
  | [] => 0
  | d :: r => uptoBulk d + uptoBulkAll r
def uptoBulkEntries {H : Type} : List (Lit × DataW H) → Nat
  | [] => 0
  | x :: r => uptoBulkEntry x + uptoBulkEntries r
def uptoBulkEntry {H : Type} : Lit × DataW H → Nat
  | (.string bytes, d) => bytes.length + uptoBulk d + 1
  | (_, d) => uptoBulk d + 1
 end
def uptoSmall : (H : Type) → List (DataW H) → Bool := fun _ ds => decide (uptoBulkAll ds ≤ 1048576)
def OpenSpec.upto (s : _root_.Go.ChangeSpec) : _root_.Go.OpenSpec := { _root_.Go.OpenSpec.ofChange s with cond := some uptoSmall }

/-- 'marigraphlaw13.TurnQuarters', WHERE WHAT IT READS IS OF BULK AT MOST 1048576: true; the input reads as it did. -/
def turnQuartersUptoRow : OpenClaim := { program := "ytjkpdjadbeidnaa", sum := "7df7888a3646337d81c611d7d7c8bf537b35af6facf91c9f0c962686ee84f957", func := "marigraph/marigraphlaw13.TurnQuarters", spec := "turnQuarters", apart := false, narrowed := true }
def TurnQuartersUptoSaid : Prop := turnQuartersUptoRow.holds Try.pinned (OpenSpec.upto turnQuartersSpec)

/-- 'marigraphlaw13.TurnRound', WHERE WHAT IT READS IS OF BULK AT MOST 1048576: true; the input reads as it did. -/
def turnRoundUptoRow : OpenClaim := { program := "ytjkpdjadbeidnaa", sum := "7df7888a3646337d81c611d7d7c8bf537b35af6facf91c9f0c962686ee84f957", func := "marigraph/marigraphlaw13.TurnRound", spec := "turnRound", apart := false, narrowed := true }
def TurnRoundUptoSaid : Prop := turnRoundUptoRow.holds Try.pinned (OpenSpec.upto turnRoundSpec)

/-- 'marigraphlaw13.TurnLater', WHERE WHAT IT READS IS OF BULK AT MOST 1048576: true; the input reads as it did. -/
def turnLaterUptoRow : OpenClaim := { program := "ytjkpdjadbeidnaa", sum := "7df7888a3646337d81c611d7d7c8bf537b35af6facf91c9f0c962686ee84f957", func := "marigraph/marigraphlaw13.TurnLater", spec := "turnLater", apart := false, narrowed := true }
def TurnLaterUptoSaid : Prop := turnLaterUptoRow.holds Try.pinned (OpenSpec.upto turnLaterSpec)

/-- 'marigraphlaw13.TurnParts', WHERE WHAT IT READS IS OF BULK AT MOST 1048576: true; the input reads as it did. -/
def turnPartsUptoRow : OpenClaim := { program := "ytjkpdjadbeidnaa", sum := "7df7888a3646337d81c611d7d7c8bf537b35af6facf91c9f0c962686ee84f957", func := "marigraph/marigraphlaw13.TurnParts", spec := "turnParts", apart := false, narrowed := true }
def TurnPartsUptoSaid : Prop := turnPartsUptoRow.holds Try.pinned (OpenSpec.upto turnPartsSpec)

/-- 'marigraphlaw13.TurnFlat', WHERE WHAT IT READS IS OF BULK AT MOST 1048576: true; the input reads as it did. -/
def turnFlatUptoRow : OpenClaim := { program := "ytjkpdjadbeidnaa", sum := "7df7888a3646337d81c611d7d7c8bf537b35af6facf91c9f0c962686ee84f957", func := "marigraph/marigraphlaw13.TurnFlat", spec := "turnFlat", apart := false, narrowed := true }
def TurnFlatUptoSaid : Prop := turnFlatUptoRow.holds Try.pinned (OpenSpec.upto turnFlatSpec)

/-- 'marigraphlaw13.TurnBy', WHERE WHAT IT READS IS OF BULK AT MOST 1048576: true; the input reads as it did. -/
def turnByUptoRow : OpenClaim := { program := "ytjkpdjadbeidnaa", sum := "7df7888a3646337d81c611d7d7c8bf537b35af6facf91c9f0c962686ee84f957", func := "marigraph/marigraphlaw13.TurnBy", spec := "turnBy", apart := false, narrowed := true }
def TurnByUptoSaid : Prop := turnByUptoRow.holds Try.pinned (OpenSpec.upto turnBySpec)

/-- 'marigraphlaw13.TurnOf', WHERE WHAT IT READS IS OF BULK AT MOST 1048576: true; the input reads as it did. -/
def turnOfUptoRow : OpenClaim := { program := "ytjkpdjadbeidnaa", sum := "7df7888a3646337d81c611d7d7c8bf537b35af6facf91c9f0c962686ee84f957", func := "marigraph/marigraphlaw13.TurnOf", spec := "turnOf", apart := false, narrowed := true }
def TurnOfUptoSaid : Prop := turnOfUptoRow.holds Try.pinned (OpenSpec.upto turnOfSpec)

/-- 'marigraphlaw12.AggOf', WHERE WHAT IT READS IS OF BULK AT MOST 1048576: true; the input reads as it did. -/
def aggOfUptoRow : OpenClaim := { program := "ytjkpdjadbeidnaa", sum := "7df7888a3646337d81c611d7d7c8bf537b35af6facf91c9f0c962686ee84f957", func := "marigraph/marigraphlaw12.AggOf", spec := "aggOf", unfollowed := true, recurses := true, apart := false, narrowed := true }
def AggOfUptoSaid : Prop := aggOfUptoRow.holds Try.pinned (OpenSpec.upto aggOfSpec)

/-- 'marigraphlaw12.AggRollup', WHERE WHAT IT READS IS OF BULK AT MOST 1048576: true; the input reads as it did. -/
def aggRollupUptoRow : OpenClaim := { program := "ytjkpdjadbeidnaa", sum := "7df7888a3646337d81c611d7d7c8bf537b35af6facf91c9f0c962686ee84f957", func := "marigraph/marigraphlaw12.AggRollup", spec := "aggRollup", unfollowed := true, recurses := true, apart := false, narrowed := true }
def AggRollupUptoSaid : Prop := aggRollupUptoRow.holds Try.pinned (OpenSpec.upto aggRollupSpec)

/-- 'marigraphlaw12.AggParts', WHERE WHAT IT READS IS OF BULK AT MOST 1048576: true; the input reads as it did. -/
def aggPartsUptoRow : OpenClaim := { program := "ytjkpdjadbeidnaa", sum := "7df7888a3646337d81c611d7d7c8bf537b35af6facf91c9f0c962686ee84f957", func := "marigraph/marigraphlaw12.AggParts", spec := "aggParts", unfollowed := true, recurses := true, apart := false, narrowed := true }
def AggPartsUptoSaid : Prop := aggPartsUptoRow.holds Try.pinned (OpenSpec.upto aggPartsSpec)

/-- 'marigraphlaw12.AggTwice', WHERE WHAT IT READS IS OF BULK AT MOST 1048576: true; the input reads as it did. -/
def aggTwiceUptoRow : OpenClaim := { program := "ytjkpdjadbeidnaa", sum := "7df7888a3646337d81c611d7d7c8bf537b35af6facf91c9f0c962686ee84f957", func := "marigraph/marigraphlaw12.AggTwice", spec := "aggTwice", unfollowed := true, recurses := true, apart := false, narrowed := true }
def AggTwiceUptoSaid : Prop := aggTwiceUptoRow.holds Try.pinned (OpenSpec.upto aggTwiceSpec)

/-- 'marigraphlaw12.AggShift', WHERE WHAT IT READS IS OF BULK AT MOST 1048576: true; the input reads as it did. -/
def aggShiftUptoRow : OpenClaim := { program := "ytjkpdjadbeidnaa", sum := "7df7888a3646337d81c611d7d7c8bf537b35af6facf91c9f0c962686ee84f957", func := "marigraph/marigraphlaw12.AggShift", spec := "aggShift", unfollowed := true, recurses := true, apart := false, narrowed := true }
def AggShiftUptoSaid : Prop := aggShiftUptoRow.holds Try.pinned (OpenSpec.upto aggShiftSpec)

/-- 'marigraphlaw12.AggBuckets', WHERE WHAT IT READS IS OF BULK AT MOST 1048576: true; the input reads as it did. -/
def aggBucketsUptoRow : OpenClaim := { program := "ytjkpdjadbeidnaa", sum := "7df7888a3646337d81c611d7d7c8bf537b35af6facf91c9f0c962686ee84f957", func := "marigraph/marigraphlaw12.AggBuckets", spec := "aggBuckets", unfollowed := true, recurses := true, apart := false, narrowed := true }
def AggBucketsUptoSaid : Prop := aggBucketsUptoRow.holds Try.pinned (OpenSpec.upto aggBucketsSpec)

/-- 'marigraphlaw12.AggWhole', WHERE WHAT IT READS IS OF BULK AT MOST 1048576: true; the input reads as it did. -/
def aggWholeUptoRow : OpenClaim := { program := "ytjkpdjadbeidnaa", sum := "7df7888a3646337d81c611d7d7c8bf537b35af6facf91c9f0c962686ee84f957", func := "marigraph/marigraphlaw12.AggWhole", spec := "aggWhole", unfollowed := true, recurses := true, apart := false, narrowed := true }
def AggWholeUptoSaid : Prop := aggWholeUptoRow.holds Try.pinned (OpenSpec.upto aggWholeSpec)

/-- 'marigraphlaw12.AggOne', WHERE WHAT IT READS IS OF BULK AT MOST 1048576: true; the input reads as it did. -/
def aggOneUptoRow : OpenClaim := { program := "ytjkpdjadbeidnaa", sum := "7df7888a3646337d81c611d7d7c8bf537b35af6facf91c9f0c962686ee84f957", func := "marigraph/marigraphlaw12.AggOne", spec := "aggOne", unfollowed := true, recurses := true, apart := false, narrowed := true }
def AggOneUptoSaid : Prop := aggOneUptoRow.holds Try.pinned (OpenSpec.upto aggOneSpec)

end Rows
end Go.Proofs.Ytjkpdjadbeidnaa
