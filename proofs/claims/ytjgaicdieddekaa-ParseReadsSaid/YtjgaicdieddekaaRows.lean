/-
  No cell of these rows narrows 'for every input' (looked for: loops, veiled, ifaces, maps, wideKeys, modest, calm, conditions, laid).
  DERIVED. THE GIVEN ROWS OF THIS SEAT. 3 by the template 'for every input the law returns true; each argument reads behind the call as it read before'; 0 by the template 'total and deterministic' (their statements: YtjgaicdieddekaaTotals.lean).
  GIVEN WITH THE SEED: the statements are not yours to turn. If you find one false, say at which input.
  Laid BY PROGRAM, IN A SANDBOX (cutbox-rows.mjs): the forced cells as the released guide's own fill.sh prints them over the translation 5f59dd3e8d946dd9… (all of the seat's roots in one cut). By AI agents, Wed Nov 11 2026. No macro, syntax, notation, axiom, sorry.
-/
import Derived.Test.YtjgaicdieddekaaChecked
import GoSem.Claim
import GoSem.ClaimJoined
import GoSem.ClaimMapViews
import Derived.JoinedTies
import Derived.KernelRfl
namespace Go.Proofs.Ytjgaicdieddekaa
/- THE CELL 'sum', in the pinned program and in every row, IS THE sha256 OF THE DUMP (.gsa) THAT YtjgaicdieddekaaProg.lean LOADS. Nothing in Lean hashes anything: it is a label: what it is worth is what the hold of that sum in a sandbox is worth. -/
noncomputable def Try.pinned : Pinned := { name := "ytjgaicdieddekaa", sum := "5f59dd3e8d946dd952727656ce8ab49662153c89ec46ce715603fe9e43f623b1", checked := Try.checked }
namespace Rows
def none {H : Type} : Left H := { results := [], args := [] }

/-- 'tangramlaw02.ParseReads': WHATEVER THE INPUT: true; the input reads as it did. -/
def parseReadsSpec : ChangeSpec := { name := "parseReads", fn := fun _ => fun
  | [d] => { results := [.lit (.bool true)], args := [d] }
  | _ => none }
def parseReadsRow : OpenClaim := { program := "ytjgaicdieddekaa", sum := "5f59dd3e8d946dd952727656ce8ab49662153c89ec46ce715603fe9e43f623b1", func := "tangram/tangramlaw02.ParseReads", spec := "parseReads", unfollowed := true, recurses := true, apart := false }
def ParseReadsSaid : Prop := parseReadsRow.holds Try.pinned (OpenSpec.ofChange parseReadsSpec)

/-- ITS FALSE NEIGHBOUR: 'it returns false'. Refute it at one input. -/
def parseReadsWrong : ChangeSpec := { name := "parseReads", fn := fun _ => fun
  | [d] => { results := [.lit (.bool false)], args := [d] }
  | _ => none }
def ParseReadsWrongFalsely : Prop := parseReadsRow.holds Try.pinned (OpenSpec.ofChange parseReadsWrong)

/-- 'tangramlaw02.ParseBlanks': WHATEVER THE INPUT: true; the input reads as it did. -/
def parseBlanksSpec : ChangeSpec := { name := "parseBlanks", fn := fun _ => fun
  | [d1, d2] => { results := [.lit (.bool true)], args := [d1, d2] }
  | _ => none }
def parseBlanksRow : OpenClaim := { program := "ytjgaicdieddekaa", sum := "5f59dd3e8d946dd952727656ce8ab49662153c89ec46ce715603fe9e43f623b1", func := "tangram/tangramlaw02.ParseBlanks", spec := "parseBlanks", unfollowed := true, recurses := true, apart := false }
def ParseBlanksSaid : Prop := parseBlanksRow.holds Try.pinned (OpenSpec.ofChange parseBlanksSpec)

/-- ITS FALSE NEIGHBOUR: 'it returns false'. Refute it at one input. -/
def parseBlanksWrong : ChangeSpec := { name := "parseBlanks", fn := fun _ => fun
  | [d1, d2] => { results := [.lit (.bool false)], args := [d1, d2] }
  | _ => none }
def ParseBlanksWrongFalsely : Prop := parseBlanksRow.holds Try.pinned (OpenSpec.ofChange parseBlanksWrong)

/-- 'tangramlaw02.ParseMemory': WHATEVER THE INPUT: true; the input reads as it did. -/
def parseMemorySpec : ChangeSpec := { name := "parseMemory", fn := fun _ => fun
  | [d] => { results := [.lit (.bool true)], args := [d] }
  | _ => none }
def parseMemoryRow : OpenClaim := { program := "ytjgaicdieddekaa", sum := "5f59dd3e8d946dd952727656ce8ab49662153c89ec46ce715603fe9e43f623b1", func := "tangram/tangramlaw02.ParseMemory", spec := "parseMemory", unfollowed := true, recurses := true, apart := false }
def ParseMemorySaid : Prop := parseMemoryRow.holds Try.pinned (OpenSpec.ofChange parseMemorySpec)

/-- ITS FALSE NEIGHBOUR: 'it returns false'. Refute it at one input. -/
def parseMemoryWrong : ChangeSpec := { name := "parseMemory", fn := fun _ => fun
  | [d] => { results := [.lit (.bool false)], args := [d] }
  | _ => none }
def ParseMemoryWrongFalsely : Prop := parseMemoryRow.holds Try.pinned (OpenSpec.ofChange parseMemoryWrong)

/- THE SECOND FORM. 'bulk': how many values and letters a reading holds, each counted each time it is reached (what is shared counts as often as it is met; a slice's spare places count too). A statement '..UptoSaid' is the law's where the arguments, and the package variables that the reading takes, are together of bulk at most 1048576: NARROWER than '..Said'. Prove '..Said' where nothing that the law and all that it calls make is longer than what came in: it says more and counts as full. Else prove '..UptoSaid'. A law counts once. -/
mutual
def uptoBulk {H : Type} : DataW H → Nat
  | .lit (.string bytes) => bytes.length + 1
  | .lit _ => 1
  | .nil => 1
  | .ptr d => uptoBulk d + 1
  | .slice elems spare => uptoBulkAll elems + uptoBulkAll spare + 1
  | .agg parts => uptoBulkAll parts + 1
  | .iface _ d => uptoBulk d + 1
  | .map entries => uptoBulkEntries entries + 1
  | .held _ => 1
def uptoBulkAll {H : Type} : List (DataW H) → Nat
  | [] => 0
  | d :: r => uptoBulk d + uptoBulkAll r
def uptoBulkEntries {H : Type} : List (Lit × DataW H) → Nat
  | [] => 0
  | x :: r => uptoBulkEntry x + uptoBulkEntries r
def uptoBulkEntry {H : Type} : Lit × DataW H → Nat
  | (.string bytes, d) => bytes.length + uptoBulk d + 1
  | (_, d) => uptoBulk d + 1
 end
def uptoSmall : (H : Type) → List (DataW H) → Bool := fun _ ds => decide (uptoBulkAll ds ≤ 1048576)
def OpenSpec.upto (s : _root_.Go.ChangeSpec) : _root_.Go.OpenSpec := { _root_.Go.OpenSpec.ofChange s with cond := some uptoSmall }

/-- 'tangramlaw02.ParseReads', WHERE WHAT IT READS IS OF BULK AT MOST 1048576: true; the input reads as it did. -/
def parseReadsUptoRow : OpenClaim := { program := "ytjgaicdieddekaa", sum := "5f59dd3e8d946dd952727656ce8ab49662153c89ec46ce715603fe9e43f623b1", func := "tangram/tangramlaw02.ParseReads", spec := "parseReads", unfollowed := true, recurses := true, apart := false, narrowed := true }
def ParseReadsUptoSaid : Prop := parseReadsUptoRow.holds Try.pinned (OpenSpec.upto parseReadsSpec)

/-- 'tangramlaw02.ParseBlanks', WHERE WHAT IT READS IS OF BULK AT MOST 1048576: true; the input reads as it did. -/
def parseBlanksUptoRow : OpenClaim := { program := "ytjgaicdieddekaa", sum := "5f59dd3e8d946dd952727656ce8ab49662153c89ec46ce715603fe9e43f623b1", func := "tangram/tangramlaw02.ParseBlanks", spec := "parseBlanks", unfollowed := true, recurses := true, apart := false, narrowed := true }
def ParseBlanksUptoSaid : Prop := parseBlanksUptoRow.holds Try.pinned (OpenSpec.upto parseBlanksSpec)

/-- 'tangramlaw02.ParseMemory', WHERE WHAT IT READS IS OF BULK AT MOST 1048576: true; the input reads as it did. -/
def parseMemoryUptoRow : OpenClaim := { program := "ytjgaicdieddekaa", sum := "5f59dd3e8d946dd952727656ce8ab49662153c89ec46ce715603fe9e43f623b1", func := "tangram/tangramlaw02.ParseMemory", spec := "parseMemory", unfollowed := true, recurses := true, apart := false, narrowed := true }
def ParseMemoryUptoSaid : Prop := parseMemoryUptoRow.holds Try.pinned (OpenSpec.upto parseMemorySpec)

end Rows
end Go.Proofs.Ytjgaicdieddekaa
