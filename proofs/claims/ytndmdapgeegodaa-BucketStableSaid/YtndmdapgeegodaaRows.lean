/-
  No cell of these rows narrows 'for every input' (looked for: loops, veiled, ifaces, maps, wideKeys, modest, calm, conditions, laid).
  DERIVED. THE GIVEN ROWS OF THIS SEAT. 12 by the template 'for every input the law returns true; each argument reads behind the call as it read before'; 0 by the template 'total and deterministic' (their statements: YtndmdapgeegodaaTotals.lean).
  GIVEN WITH THE SEED: the statements are not yours to turn. If you find one false, say at which input.
  Laid BY PROGRAM, IN A SANDBOX (cutbox-rows.mjs): the forced cells as the released guide's own fill.sh prints them over the translation c9dc34c9d9f6e2a2… (all of the seat's roots in one cut). By AI agents, Wed Nov 11 2026. No macro, syntax, notation, axiom, sorry.
-/
import Derived.Test.YtndmdapgeegodaaChecked
import GoSem.Claim
import GoSem.ClaimJoined
import GoSem.ClaimMapViews
import Derived.JoinedTies
import Derived.KernelRfl
namespace Go.Proofs.Ytndmdapgeegodaa
/- THE CELL 'sum', in the pinned program and in every row, IS THE sha256 OF THE DUMP (.gsa) THAT YtndmdapgeegodaaProg.lean LOADS. Nothing in Lean hashes anything: it is a label: what it is worth is what the hold of that sum in a sandbox is worth. -/
noncomputable def Try.pinned : Pinned := { name := "ytndmdapgeegodaa", sum := "c9dc34c9d9f6e2a2c38767944faee68b948c0fa24e608e1e2e22b8cb44642bd9", checked := Try.checked }
namespace Rows
def none {H : Type} : Left H := { results := [], args := [] }

/-- 'tangramlaw01.NumsNames': WHATEVER THE INPUT: true; the input reads as it did. -/
def numsNamesSpec : ChangeSpec := { name := "numsNames", fn := fun _ => fun
  | [] => { results := [.lit (.bool true)], args := [] }
  | _ => none }
def numsNamesRow : OpenClaim := { program := "ytndmdapgeegodaa", sum := "c9dc34c9d9f6e2a2c38767944faee68b948c0fa24e608e1e2e22b8cb44642bd9", func := "tangram/tangramlaw01.NumsNames", spec := "numsNames", apart := false }
def NumsNamesSaid : Prop := numsNamesRow.holds Try.pinned (OpenSpec.ofChange numsNamesSpec)

/-- ITS FALSE NEIGHBOUR: 'it returns false'. Refute it at one input. -/
def numsNamesWrong : ChangeSpec := { name := "numsNames", fn := fun _ => fun
  | [] => { results := [.lit (.bool false)], args := [] }
  | _ => none }
def NumsNamesWrongFalsely : Prop := numsNamesRow.holds Try.pinned (OpenSpec.ofChange numsNamesWrong)

/-- 'tangramlaw02.ParseNames': WHATEVER THE INPUT: true; the input reads as it did. -/
def parseNamesSpec : ChangeSpec := { name := "parseNames", fn := fun _ => fun
  | [] => { results := [.lit (.bool true)], args := [] }
  | _ => none }
def parseNamesRow : OpenClaim := { program := "ytndmdapgeegodaa", sum := "c9dc34c9d9f6e2a2c38767944faee68b948c0fa24e608e1e2e22b8cb44642bd9", func := "tangram/tangramlaw02.ParseNames", spec := "parseNames", apart := false }
def ParseNamesSaid : Prop := parseNamesRow.holds Try.pinned (OpenSpec.ofChange parseNamesSpec)

/-- ITS FALSE NEIGHBOUR: 'it returns false'. Refute it at one input. -/
def parseNamesWrong : ChangeSpec := { name := "parseNames", fn := fun _ => fun
  | [] => { results := [.lit (.bool false)], args := [] }
  | _ => none }
def ParseNamesWrongFalsely : Prop := parseNamesRow.holds Try.pinned (OpenSpec.ofChange parseNamesWrong)

/-- 'tangramlaw06.BucketNames': WHATEVER THE INPUT: true; the input reads as it did. -/
def bucketNamesSpec : ChangeSpec := { name := "bucketNames", fn := fun _ => fun
  | [] => { results := [.lit (.bool true)], args := [] }
  | _ => none }
def bucketNamesRow : OpenClaim := { program := "ytndmdapgeegodaa", sum := "c9dc34c9d9f6e2a2c38767944faee68b948c0fa24e608e1e2e22b8cb44642bd9", func := "tangram/tangramlaw06.BucketNames", spec := "bucketNames", apart := false }
def BucketNamesSaid : Prop := bucketNamesRow.holds Try.pinned (OpenSpec.ofChange bucketNamesSpec)

/-- ITS FALSE NEIGHBOUR: 'it returns false'. Refute it at one input. -/
def bucketNamesWrong : ChangeSpec := { name := "bucketNames", fn := fun _ => fun
  | [] => { results := [.lit (.bool false)], args := [] }
  | _ => none }
def BucketNamesWrongFalsely : Prop := bucketNamesRow.holds Try.pinned (OpenSpec.ofChange bucketNamesWrong)

/-- 'tangramlaw06.BucketRanks': WHATEVER THE INPUT: true; the input reads as it did. -/
def bucketRanksSpec : ChangeSpec := { name := "bucketRanks", fn := fun _ => fun
  | [d1, d2] => { results := [.lit (.bool true)], args := [d1, d2] }
  | _ => none }
def bucketRanksRow : OpenClaim := { program := "ytndmdapgeegodaa", sum := "c9dc34c9d9f6e2a2c38767944faee68b948c0fa24e608e1e2e22b8cb44642bd9", func := "tangram/tangramlaw06.BucketRanks", spec := "bucketRanks", unfollowed := true, recurses := true, apart := false }
def BucketRanksSaid : Prop := bucketRanksRow.holds Try.pinned (OpenSpec.ofChange bucketRanksSpec)

/-- ITS FALSE NEIGHBOUR: 'it returns false'. Refute it at one input. -/
def bucketRanksWrong : ChangeSpec := { name := "bucketRanks", fn := fun _ => fun
  | [d1, d2] => { results := [.lit (.bool false)], args := [d1, d2] }
  | _ => none }
def BucketRanksWrongFalsely : Prop := bucketRanksRow.holds Try.pinned (OpenSpec.ofChange bucketRanksWrong)

/-- 'tangramlaw06.BucketNil': WHATEVER THE INPUT: true; the input reads as it did. -/
def bucketNilSpec : ChangeSpec := { name := "bucketNil", fn := fun _ => fun
  | [d1, d2] => { results := [.lit (.bool true)], args := [d1, d2] }
  | _ => none }
def bucketNilRow : OpenClaim := { program := "ytndmdapgeegodaa", sum := "c9dc34c9d9f6e2a2c38767944faee68b948c0fa24e608e1e2e22b8cb44642bd9", func := "tangram/tangramlaw06.BucketNil", spec := "bucketNil", unfollowed := true, recurses := true, apart := false }
def BucketNilSaid : Prop := bucketNilRow.holds Try.pinned (OpenSpec.ofChange bucketNilSpec)

/-- ITS FALSE NEIGHBOUR: 'it returns false'. Refute it at one input. -/
def bucketNilWrong : ChangeSpec := { name := "bucketNil", fn := fun _ => fun
  | [d1, d2] => { results := [.lit (.bool false)], args := [d1, d2] }
  | _ => none }
def BucketNilWrongFalsely : Prop := bucketNilRow.holds Try.pinned (OpenSpec.ofChange bucketNilWrong)

/-- 'tangramlaw06.BucketGroups': WHATEVER THE INPUT: true; the input reads as it did. -/
def bucketGroupsSpec : ChangeSpec := { name := "bucketGroups", fn := fun _ => fun
  | [d1, d2] => { results := [.lit (.bool true)], args := [d1, d2] }
  | _ => none }
def bucketGroupsRow : OpenClaim := { program := "ytndmdapgeegodaa", sum := "c9dc34c9d9f6e2a2c38767944faee68b948c0fa24e608e1e2e22b8cb44642bd9", func := "tangram/tangramlaw06.BucketGroups", spec := "bucketGroups", unfollowed := true, recurses := true, apart := false }
def BucketGroupsSaid : Prop := bucketGroupsRow.holds Try.pinned (OpenSpec.ofChange bucketGroupsSpec)

/-- ITS FALSE NEIGHBOUR: 'it returns false'. Refute it at one input. -/
def bucketGroupsWrong : ChangeSpec := { name := "bucketGroups", fn := fun _ => fun
  | [d1, d2] => { results := [.lit (.bool false)], args := [d1, d2] }
  | _ => none }
def BucketGroupsWrongFalsely : Prop := bucketGroupsRow.holds Try.pinned (OpenSpec.ofChange bucketGroupsWrong)

/-- 'tangramlaw06.BucketStable': WHATEVER THE INPUT: true; the input reads as it did. -/
def bucketStableSpec : ChangeSpec := { name := "bucketStable", fn := fun _ => fun
  | [d1, d2] => { results := [.lit (.bool true)], args := [d1, d2] }
  | _ => none }
def bucketStableRow : OpenClaim := { program := "ytndmdapgeegodaa", sum := "c9dc34c9d9f6e2a2c38767944faee68b948c0fa24e608e1e2e22b8cb44642bd9", func := "tangram/tangramlaw06.BucketStable", spec := "bucketStable", unfollowed := true, recurses := true, apart := false }
def BucketStableSaid : Prop := bucketStableRow.holds Try.pinned (OpenSpec.ofChange bucketStableSpec)

/-- ITS FALSE NEIGHBOUR: 'it returns false'. Refute it at one input. -/
def bucketStableWrong : ChangeSpec := { name := "bucketStable", fn := fun _ => fun
  | [d1, d2] => { results := [.lit (.bool false)], args := [d1, d2] }
  | _ => none }
def BucketStableWrongFalsely : Prop := bucketStableRow.holds Try.pinned (OpenSpec.ofChange bucketStableWrong)

/-- 'tangramlaw06.BucketOwn': WHATEVER THE INPUT: true; the input reads as it did. -/
def bucketOwnSpec : ChangeSpec := { name := "bucketOwn", fn := fun _ => fun
  | [d1, d2] => { results := [.lit (.bool true)], args := [d1, d2] }
  | _ => none }
def bucketOwnRow : OpenClaim := { program := "ytndmdapgeegodaa", sum := "c9dc34c9d9f6e2a2c38767944faee68b948c0fa24e608e1e2e22b8cb44642bd9", func := "tangram/tangramlaw06.BucketOwn", spec := "bucketOwn", unfollowed := true, recurses := true, apart := false }
def BucketOwnSaid : Prop := bucketOwnRow.holds Try.pinned (OpenSpec.ofChange bucketOwnSpec)

/-- ITS FALSE NEIGHBOUR: 'it returns false'. Refute it at one input. -/
def bucketOwnWrong : ChangeSpec := { name := "bucketOwn", fn := fun _ => fun
  | [d1, d2] => { results := [.lit (.bool false)], args := [d1, d2] }
  | _ => none }
def BucketOwnWrongFalsely : Prop := bucketOwnRow.holds Try.pinned (OpenSpec.ofChange bucketOwnWrong)

/-- 'tangramlaw02.ParseReads': WHATEVER THE INPUT: true; the input reads as it did. -/
def parseReadsSpec : ChangeSpec := { name := "parseReads", fn := fun _ => fun
  | [d] => { results := [.lit (.bool true)], args := [d] }
  | _ => none }
def parseReadsRow : OpenClaim := { program := "ytndmdapgeegodaa", sum := "c9dc34c9d9f6e2a2c38767944faee68b948c0fa24e608e1e2e22b8cb44642bd9", func := "tangram/tangramlaw02.ParseReads", spec := "parseReads", unfollowed := true, recurses := true, apart := false }
def ParseReadsSaid : Prop := parseReadsRow.holds Try.pinned (OpenSpec.ofChange parseReadsSpec)

/-- ITS FALSE NEIGHBOUR: 'it returns false'. Refute it at one input. -/
def parseReadsWrong : ChangeSpec := { name := "parseReads", fn := fun _ => fun
  | [d] => { results := [.lit (.bool false)], args := [d] }
  | _ => none }
def ParseReadsWrongFalsely : Prop := parseReadsRow.holds Try.pinned (OpenSpec.ofChange parseReadsWrong)

/-- 'tangramlaw02.ParseBlanks': WHATEVER THE INPUT: true; the input reads as it did. -/
def parseBlanksSpec : ChangeSpec := { name := "parseBlanks", fn := fun _ => fun
  | [d1, d2] => { results := [.lit (.bool true)], args := [d1, d2] }
  | _ => none }
def parseBlanksRow : OpenClaim := { program := "ytndmdapgeegodaa", sum := "c9dc34c9d9f6e2a2c38767944faee68b948c0fa24e608e1e2e22b8cb44642bd9", func := "tangram/tangramlaw02.ParseBlanks", spec := "parseBlanks", unfollowed := true, recurses := true, apart := false }
def ParseBlanksSaid : Prop := parseBlanksRow.holds Try.pinned (OpenSpec.ofChange parseBlanksSpec)

/-- ITS FALSE NEIGHBOUR: 'it returns false'. Refute it at one input. -/
def parseBlanksWrong : ChangeSpec := { name := "parseBlanks", fn := fun _ => fun
  | [d1, d2] => { results := [.lit (.bool false)], args := [d1, d2] }
  | _ => none }
def ParseBlanksWrongFalsely : Prop := parseBlanksRow.holds Try.pinned (OpenSpec.ofChange parseBlanksWrong)

/-- 'tangramlaw02.ParseMemory': WHATEVER THE INPUT: true; the input reads as it did. -/
def parseMemorySpec : ChangeSpec := { name := "parseMemory", fn := fun _ => fun
  | [d] => { results := [.lit (.bool true)], args := [d] }
  | _ => none }
def parseMemoryRow : OpenClaim := { program := "ytndmdapgeegodaa", sum := "c9dc34c9d9f6e2a2c38767944faee68b948c0fa24e608e1e2e22b8cb44642bd9", func := "tangram/tangramlaw02.ParseMemory", spec := "parseMemory", unfollowed := true, recurses := true, apart := false }
def ParseMemorySaid : Prop := parseMemoryRow.holds Try.pinned (OpenSpec.ofChange parseMemorySpec)

/-- ITS FALSE NEIGHBOUR: 'it returns false'. Refute it at one input. -/
def parseMemoryWrong : ChangeSpec := { name := "parseMemory", fn := fun _ => fun
  | [d] => { results := [.lit (.bool false)], args := [d] }
  | _ => none }
def ParseMemoryWrongFalsely : Prop := parseMemoryRow.holds Try.pinned (OpenSpec.ofChange parseMemoryWrong)

/-- 'tangramtop.TopNumbers': WHATEVER THE INPUT: true; the input reads as it did. -/
def topNumbersSpec : ChangeSpec := { name := "topNumbers", fn := fun _ => fun
  | [] => { results := [.lit (.bool true)], args := [] }
  | _ => none }
def topNumbersRow : OpenClaim := { program := "ytndmdapgeegodaa", sum := "c9dc34c9d9f6e2a2c38767944faee68b948c0fa24e608e1e2e22b8cb44642bd9", func := "tangram/tangramtop.TopNumbers", spec := "topNumbers", apart := false }
def TopNumbersSaid : Prop := topNumbersRow.holds Try.pinned (OpenSpec.ofChange topNumbersSpec)

/-- ITS FALSE NEIGHBOUR: 'it returns false'. Refute it at one input. -/
def topNumbersWrong : ChangeSpec := { name := "topNumbers", fn := fun _ => fun
  | [] => { results := [.lit (.bool false)], args := [] }
  | _ => none }
def TopNumbersWrongFalsely : Prop := topNumbersRow.holds Try.pinned (OpenSpec.ofChange topNumbersWrong)

/- THE SECOND FORM. 'bulk': how many values and letters a reading holds, each counted each time it is reached (what is shared counts as often as it is met; a slice's spare places count too). A statement '..UptoSaid' is the law's where the arguments, and the package variables that the reading takes, are together of bulk at most 1048576: NARROWER than '..Said'. Prove '..Said' where nothing that the law and all that it calls make is longer than what came in: it says more and counts as full. Else prove '..UptoSaid'. A law counts once. -/
mutual
def uptoBulk {H : Type} : DataW H → Nat
  | .lit (.string bytes) => bytes.length + 1
  | .lit _ => 1
  | .nil => 1
  | .ptr d => uptoBulk d + 1
  | .slice elems spare => uptoBulkAll elems + uptoBulkAll spare + 1
  | .agg parts => uptoBulkAll parts + 1
  | .iface _ d => uptoBulk d + 1
  | .map entries => uptoBulkEntries entries + 1
  | .held _ => 1
def uptoBulkAll {H : Type} : List (DataW H) → Nat
  | [] => 0
  | d :: r => uptoBulk d + uptoBulkAll r
def uptoBulkEntries {H : Type} : List (Lit × DataW H) → Nat
  | [] => 0
  | x :: r => uptoBulkEntry x + uptoBulkEntries r
def uptoBulkEntry {H : Type} : Lit × DataW H → Nat
  | (.string bytes, d) => bytes.length + uptoBulk d + 1
  | (_, d) => uptoBulk d + 1
 end
def uptoSmall : (H : Type) → List (DataW H) → Bool := fun _ ds => decide (uptoBulkAll ds ≤ 1048576)
def OpenSpec.upto (s : _root_.Go.ChangeSpec) : _root_.Go.OpenSpec := { _root_.Go.OpenSpec.ofChange s with cond := some uptoSmall }

/-- 'tangramlaw01.NumsNames', WHERE WHAT IT READS IS OF BULK AT MOST 1048576: true; the input reads as it did. -/
def numsNamesUptoRow : OpenClaim := { program := "ytndmdapgeegodaa", sum := "c9dc34c9d9f6e2a2c38767944faee68b948c0fa24e608e1e2e22b8cb44642bd9", func := "tangram/tangramlaw01.NumsNames", spec := "numsNames", apart := false, narrowed := true }
def NumsNamesUptoSaid : Prop := numsNamesUptoRow.holds Try.pinned (OpenSpec.upto numsNamesSpec)

/-- 'tangramlaw02.ParseNames', WHERE WHAT IT READS IS OF BULK AT MOST 1048576: true; the input reads as it did. -/
def parseNamesUptoRow : OpenClaim := { program := "ytndmdapgeegodaa", sum := "c9dc34c9d9f6e2a2c38767944faee68b948c0fa24e608e1e2e22b8cb44642bd9", func := "tangram/tangramlaw02.ParseNames", spec := "parseNames", apart := false, narrowed := true }
def ParseNamesUptoSaid : Prop := parseNamesUptoRow.holds Try.pinned (OpenSpec.upto parseNamesSpec)

/-- 'tangramlaw06.BucketNames', WHERE WHAT IT READS IS OF BULK AT MOST 1048576: true; the input reads as it did. -/
def bucketNamesUptoRow : OpenClaim := { program := "ytndmdapgeegodaa", sum := "c9dc34c9d9f6e2a2c38767944faee68b948c0fa24e608e1e2e22b8cb44642bd9", func := "tangram/tangramlaw06.BucketNames", spec := "bucketNames", apart := false, narrowed := true }
def BucketNamesUptoSaid : Prop := bucketNamesUptoRow.holds Try.pinned (OpenSpec.upto bucketNamesSpec)

/-- 'tangramlaw06.BucketRanks', WHERE WHAT IT READS IS OF BULK AT MOST 1048576: true; the input reads as it did. -/
def bucketRanksUptoRow : OpenClaim := { program := "ytndmdapgeegodaa", sum := "c9dc34c9d9f6e2a2c38767944faee68b948c0fa24e608e1e2e22b8cb44642bd9", func := "tangram/tangramlaw06.BucketRanks", spec := "bucketRanks", unfollowed := true, recurses := true, apart := false, narrowed := true }
def BucketRanksUptoSaid : Prop := bucketRanksUptoRow.holds Try.pinned (OpenSpec.upto bucketRanksSpec)

/-- 'tangramlaw06.BucketNil', WHERE WHAT IT READS IS OF BULK AT MOST 1048576: true; the input reads as it did. -/
def bucketNilUptoRow : OpenClaim := { program := "ytndmdapgeegodaa", sum := "c9dc34c9d9f6e2a2c38767944faee68b948c0fa24e608e1e2e22b8cb44642bd9", func := "tangram/tangramlaw06.BucketNil", spec := "bucketNil", unfollowed := true, recurses := true, apart := false, narrowed := true }
def BucketNilUptoSaid : Prop := bucketNilUptoRow.holds Try.pinned (OpenSpec.upto bucketNilSpec)

/-- 'tangramlaw06.BucketGroups', WHERE WHAT IT READS IS OF BULK AT MOST 1048576: true; the input reads as it did. -/
def bucketGroupsUptoRow : OpenClaim := { program := "ytndmdapgeegodaa", sum := "c9dc34c9d9f6e2a2c38767944faee68b948c0fa24e608e1e2e22b8cb44642bd9", func := "tangram/tangramlaw06.BucketGroups", spec := "bucketGroups", unfollowed := true, recurses := true, apart := false, narrowed := true }
def BucketGroupsUptoSaid : Prop := bucketGroupsUptoRow.holds Try.pinned (OpenSpec.upto bucketGroupsSpec)

/-- 'tangramlaw06.BucketStable', WHERE WHAT IT READS IS OF BULK AT MOST 1048576: true; the input reads as it did. -/
def bucketStableUptoRow : OpenClaim := { program := "ytndmdapgeegodaa", sum := "c9dc34c9d9f6e2a2c38767944faee68b948c0fa24e608e1e2e22b8cb44642bd9", func := "tangram/tangramlaw06.BucketStable", spec := "bucketStable", unfollowed := true, recurses := true, apart := false, narrowed := true }
def BucketStableUptoSaid : Prop := bucketStableUptoRow.holds Try.pinned (OpenSpec.upto bucketStableSpec)

/-- 'tangramlaw06.BucketOwn', WHERE WHAT IT READS IS OF BULK AT MOST 1048576: true; the input reads as it did. -/
def bucketOwnUptoRow : OpenClaim := { program := "ytndmdapgeegodaa", sum := "c9dc34c9d9f6e2a2c38767944faee68b948c0fa24e608e1e2e22b8cb44642bd9", func := "tangram/tangramlaw06.BucketOwn", spec := "bucketOwn", unfollowed := true, recurses := true, apart := false, narrowed := true }
def BucketOwnUptoSaid : Prop := bucketOwnUptoRow.holds Try.pinned (OpenSpec.upto bucketOwnSpec)

/-- 'tangramlaw02.ParseReads', WHERE WHAT IT READS IS OF BULK AT MOST 1048576: true; the input reads as it did. -/
def parseReadsUptoRow : OpenClaim := { program := "ytndmdapgeegodaa", sum := "c9dc34c9d9f6e2a2c38767944faee68b948c0fa24e608e1e2e22b8cb44642bd9", func := "tangram/tangramlaw02.ParseReads", spec := "parseReads", unfollowed := true, recurses := true, apart := false, narrowed := true }
def ParseReadsUptoSaid : Prop := parseReadsUptoRow.holds Try.pinned (OpenSpec.upto parseReadsSpec)

/-- 'tangramlaw02.ParseBlanks', WHERE WHAT IT READS IS OF BULK AT MOST 1048576: true; the input reads as it did. -/
def parseBlanksUptoRow : OpenClaim := { program := "ytndmdapgeegodaa", sum := "c9dc34c9d9f6e2a2c38767944faee68b948c0fa24e608e1e2e22b8cb44642bd9", func := "tangram/tangramlaw02.ParseBlanks", spec := "parseBlanks", unfollowed := true, recurses := true, apart := false, narrowed := true }
def ParseBlanksUptoSaid : Prop := parseBlanksUptoRow.holds Try.pinned (OpenSpec.upto parseBlanksSpec)

/-- 'tangramlaw02.ParseMemory', WHERE WHAT IT READS IS OF BULK AT MOST 1048576: true; the input reads as it did. -/
def parseMemoryUptoRow : OpenClaim := { program := "ytndmdapgeegodaa", sum := "c9dc34c9d9f6e2a2c38767944faee68b948c0fa24e608e1e2e22b8cb44642bd9", func := "tangram/tangramlaw02.ParseMemory", spec := "parseMemory", unfollowed := true, recurses := true, apart := false, narrowed := true }
def ParseMemoryUptoSaid : Prop := parseMemoryUptoRow.holds Try.pinned (OpenSpec.upto parseMemorySpec)

/-- 'tangramtop.TopNumbers', WHERE WHAT IT READS IS OF BULK AT MOST 1048576: true; the input reads as it did. -/
def topNumbersUptoRow : OpenClaim := { program := "ytndmdapgeegodaa", sum := "c9dc34c9d9f6e2a2c38767944faee68b948c0fa24e608e1e2e22b8cb44642bd9", func := "tangram/tangramtop.TopNumbers", spec := "topNumbers", apart := false, narrowed := true }
def TopNumbersUptoSaid : Prop := topNumbersUptoRow.holds Try.pinned (OpenSpec.upto topNumbersSpec)

end Rows
end Go.Proofs.Ytndmdapgeegodaa
