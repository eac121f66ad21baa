/-
  No cell of these rows narrows 'for every input' (looked for: loops, veiled, ifaces, maps, wideKeys, modest, calm, conditions, laid).
  DERIVED. THE GIVEN ROWS OF THIS SEAT. 7 by the template 'for every input the law returns true; each argument reads behind the call as it read before'; 0 by the template 'total and deterministic' (their statements: YtdaeaejmikhmcaaTotals.lean).
  GIVEN WITH THE SEED: the statements are not yours to turn. If you find one false, say at which input.
  Laid BY PROGRAM, IN A SANDBOX (cutbox-rows.mjs): the forced cells as the released guide's own fill.sh prints them over the translation 9fef97664ac780d3… (all of the seat's roots in one cut). By AI agents, Wed Nov 11 2026. No macro, syntax, notation, axiom, sorry.
-/
import Derived.Test.YtdaeaejmikhmcaaChecked
import GoSem.Claim
import GoSem.ClaimJoined
import GoSem.ClaimMapViews
import Derived.JoinedTies
import Derived.KernelRfl
namespace Go.Proofs.Ytdaeaejmikhmcaa
/- THE CELL 'sum', in the pinned program and in every row, IS THE sha256 OF THE DUMP (.gsa) THAT YtdaeaejmikhmcaaProg.lean LOADS. Nothing in Lean hashes anything: it is a label: what it is worth is what the hold of that sum in a sandbox is worth. -/
noncomputable def Try.pinned : Pinned := { name := "ytdaeaejmikhmcaa", sum := "9fef97664ac780d326328f283d64a05c16b9505985db4059ec3c8712b85249cf", checked := Try.checked }
namespace Rows
def none {H : Type} : Left H := { results := [], args := [] }

/-- 'tangramlaw14.EditNames': WHATEVER THE INPUT: true; the input reads as it did. -/
def editNamesSpec : ChangeSpec := { name := "editNames", fn := fun _ => fun
  | [] => { results := [.lit (.bool true)], args := [] }
  | _ => none }
def editNamesRow : OpenClaim := { program := "ytdaeaejmikhmcaa", sum := "9fef97664ac780d326328f283d64a05c16b9505985db4059ec3c8712b85249cf", func := "tangram/tangramlaw14.EditNames", spec := "editNames", apart := false }
def EditNamesSaid : Prop := editNamesRow.holds Try.pinned (OpenSpec.ofChange editNamesSpec)

/-- ITS FALSE NEIGHBOUR: 'it returns false'. Refute it at one input. -/
def editNamesWrong : ChangeSpec := { name := "editNames", fn := fun _ => fun
  | [] => { results := [.lit (.bool false)], args := [] }
  | _ => none }
def EditNamesWrongFalsely : Prop := editNamesRow.holds Try.pinned (OpenSpec.ofChange editNamesWrong)

/-- 'tangramlaw14.EditNamed': WHATEVER THE INPUT: true; the input reads as it did. -/
def editNamedSpec : ChangeSpec := { name := "editNamed", fn := fun _ => fun
  | [d1, d2] => { results := [.lit (.bool true)], args := [d1, d2] }
  | _ => none }
def editNamedRow : OpenClaim := { program := "ytdaeaejmikhmcaa", sum := "9fef97664ac780d326328f283d64a05c16b9505985db4059ec3c8712b85249cf", func := "tangram/tangramlaw14.EditNamed", spec := "editNamed", unfollowed := true, recurses := true, apart := false }
def EditNamedSaid : Prop := editNamedRow.holds Try.pinned (OpenSpec.ofChange editNamedSpec)

/-- ITS FALSE NEIGHBOUR: 'it returns false'. Refute it at one input. -/
def editNamedWrong : ChangeSpec := { name := "editNamed", fn := fun _ => fun
  | [d1, d2] => { results := [.lit (.bool false)], args := [d1, d2] }
  | _ => none }
def EditNamedWrongFalsely : Prop := editNamedRow.holds Try.pinned (OpenSpec.ofChange editNamedWrong)

/-- 'tangramlaw14.EditBeside': WHATEVER THE INPUT: true; the input reads as it did. -/
def editBesideSpec : ChangeSpec := { name := "editBeside", fn := fun _ => fun
  | [d1, d2] => { results := [.lit (.bool true)], args := [d1, d2] }
  | _ => none }
def editBesideRow : OpenClaim := { program := "ytdaeaejmikhmcaa", sum := "9fef97664ac780d326328f283d64a05c16b9505985db4059ec3c8712b85249cf", func := "tangram/tangramlaw14.EditBeside", spec := "editBeside", unfollowed := true, recurses := true, apart := false }
def EditBesideSaid : Prop := editBesideRow.holds Try.pinned (OpenSpec.ofChange editBesideSpec)

/-- ITS FALSE NEIGHBOUR: 'it returns false'. Refute it at one input. -/
def editBesideWrong : ChangeSpec := { name := "editBeside", fn := fun _ => fun
  | [d1, d2] => { results := [.lit (.bool false)], args := [d1, d2] }
  | _ => none }
def EditBesideWrongFalsely : Prop := editBesideRow.holds Try.pinned (OpenSpec.ofChange editBesideWrong)

/-- 'tangramlaw14.EditLists': WHATEVER THE INPUT: true; the input reads as it did. -/
def editListsSpec : ChangeSpec := { name := "editLists", fn := fun _ => fun
  | [d1, d2] => { results := [.lit (.bool true)], args := [d1, d2] }
  | _ => none }
def editListsRow : OpenClaim := { program := "ytdaeaejmikhmcaa", sum := "9fef97664ac780d326328f283d64a05c16b9505985db4059ec3c8712b85249cf", func := "tangram/tangramlaw14.EditLists", spec := "editLists", unfollowed := true, recurses := true, apart := false }
def EditListsSaid : Prop := editListsRow.holds Try.pinned (OpenSpec.ofChange editListsSpec)

/-- ITS FALSE NEIGHBOUR: 'it returns false'. Refute it at one input. -/
def editListsWrong : ChangeSpec := { name := "editLists", fn := fun _ => fun
  | [d1, d2] => { results := [.lit (.bool false)], args := [d1, d2] }
  | _ => none }
def EditListsWrongFalsely : Prop := editListsRow.holds Try.pinned (OpenSpec.ofChange editListsWrong)

/-- 'tangramlaw14.EditOne': WHATEVER THE INPUT: true; the input reads as it did. -/
def editOneSpec : ChangeSpec := { name := "editOne", fn := fun _ => fun
  | [d1, d2, d3] => { results := [.lit (.bool true)], args := [d1, d2, d3] }
  | _ => none }
def editOneRow : OpenClaim := { program := "ytdaeaejmikhmcaa", sum := "9fef97664ac780d326328f283d64a05c16b9505985db4059ec3c8712b85249cf", func := "tangram/tangramlaw14.EditOne", spec := "editOne", unfollowed := true, recurses := true, apart := false }
def EditOneSaid : Prop := editOneRow.holds Try.pinned (OpenSpec.ofChange editOneSpec)

/-- ITS FALSE NEIGHBOUR: 'it returns false'. Refute it at one input. -/
def editOneWrong : ChangeSpec := { name := "editOne", fn := fun _ => fun
  | [d1, d2, d3] => { results := [.lit (.bool false)], args := [d1, d2, d3] }
  | _ => none }
def EditOneWrongFalsely : Prop := editOneRow.holds Try.pinned (OpenSpec.ofChange editOneWrong)

/-- 'tangramlaw14.EditBack': WHATEVER THE INPUT: true; the input reads as it did. -/
def editBackSpec : ChangeSpec := { name := "editBack", fn := fun _ => fun
  | [d1, d2, d3] => { results := [.lit (.bool true)], args := [d1, d2, d3] }
  | _ => none }
def editBackRow : OpenClaim := { program := "ytdaeaejmikhmcaa", sum := "9fef97664ac780d326328f283d64a05c16b9505985db4059ec3c8712b85249cf", func := "tangram/tangramlaw14.EditBack", spec := "editBack", unfollowed := true, recurses := true, apart := false }
def EditBackSaid : Prop := editBackRow.holds Try.pinned (OpenSpec.ofChange editBackSpec)

/-- ITS FALSE NEIGHBOUR: 'it returns false'. Refute it at one input. -/
def editBackWrong : ChangeSpec := { name := "editBack", fn := fun _ => fun
  | [d1, d2, d3] => { results := [.lit (.bool false)], args := [d1, d2, d3] }
  | _ => none }
def EditBackWrongFalsely : Prop := editBackRow.holds Try.pinned (OpenSpec.ofChange editBackWrong)

/-- 'tangramlaw14.EditMemory': WHATEVER THE INPUT: true; the input reads as it did. -/
def editMemorySpec : ChangeSpec := { name := "editMemory", fn := fun _ => fun
  | [d1, d2, d3] => { results := [.lit (.bool true)], args := [d1, d2, d3] }
  | _ => none }
def editMemoryRow : OpenClaim := { program := "ytdaeaejmikhmcaa", sum := "9fef97664ac780d326328f283d64a05c16b9505985db4059ec3c8712b85249cf", func := "tangram/tangramlaw14.EditMemory", spec := "editMemory", unfollowed := true, recurses := true, apart := false }
def EditMemorySaid : Prop := editMemoryRow.holds Try.pinned (OpenSpec.ofChange editMemorySpec)

/-- ITS FALSE NEIGHBOUR: 'it returns false'. Refute it at one input. -/
def editMemoryWrong : ChangeSpec := { name := "editMemory", fn := fun _ => fun
  | [d1, d2, d3] => { results := [.lit (.bool false)], args := [d1, d2, d3] }
  | _ => none }
def EditMemoryWrongFalsely : Prop := editMemoryRow.holds Try.pinned (OpenSpec.ofChange editMemoryWrong)

/- THE SECOND FORM. 'bulk': how many values and letters a reading holds, each counted each time it is reached (what is shared counts as often as it is met; a slice's spare places count too). A statement '..UptoSaid' is the law's where the arguments, and the package variables that the reading takes, are together of bulk at most 1048576: NARROWER than '..Said'. Prove '..Said' where nothing that the law and all that it calls make is longer than what came in: it says more and counts as full. Else prove '..UptoSaid'. A law counts once. -/
mutual
def uptoBulk {H : Type} : DataW H → Nat
  | .lit (.string bytes) => bytes.length + 1
  | .lit _ => 1
  | .nil => 1
  | .ptr d => uptoBulk d + 1
  | .slice elems spare => uptoBulkAll elems + uptoBulkAll spare + 1
  | .agg parts => uptoBulkAll parts + 1
  | .iface _ d => uptoBulk d + 1
  | .map entries => uptoBulkEntries entries + 1
  | .held _ => 1
def uptoBulkAll {H : Type} : List (DataW H) → Nat
  | [] => 0
  | d :: r => uptoBulk d + uptoBulkAll r
def uptoBulkEntries {H : Type} : List (Lit × DataW H) → Nat
  | [] => 0
  | x :: r => uptoBulkEntry x + uptoBulkEntries r
def uptoBulkEntry {H : Type} : Lit × DataW H → Nat
  | (.string bytes, d) => bytes.length + uptoBulk d + 1
  | (_, d) => uptoBulk d + 1
 end
def uptoSmall : (H : Type) → List (DataW H) → Bool := fun _ ds => decide (uptoBulkAll ds ≤ 1048576)
def OpenSpec.upto (s : _root_.Go.ChangeSpec) : _root_.Go.OpenSpec := { _root_.Go.OpenSpec.ofChange s with cond := some uptoSmall }

/-- 'tangramlaw14.EditNames', WHERE WHAT IT READS IS OF BULK AT MOST 1048576: true; the input reads as it did. -/
def editNamesUptoRow : OpenClaim := { program := "ytdaeaejmikhmcaa", sum := "9fef97664ac780d326328f283d64a05c16b9505985db4059ec3c8712b85249cf", func := "tangram/tangramlaw14.EditNames", spec := "editNames", apart := false, narrowed := true }
def EditNamesUptoSaid : Prop := editNamesUptoRow.holds Try.pinned (OpenSpec.upto editNamesSpec)

/-- 'tangramlaw14.EditNamed', WHERE WHAT IT READS IS OF BULK AT MOST 1048576: true; the input reads as it did. -/
def editNamedUptoRow : OpenClaim := { program := "ytdaeaejmikhmcaa", sum := "9fef97664ac780d326328f283d64a05c16b9505985db4059ec3c8712b85249cf", func := "tangram/tangramlaw14.EditNamed", spec := "editNamed", unfollowed := true, recurses := true, apart := false, narrowed := true }
def EditNamedUptoSaid : Prop := editNamedUptoRow.holds Try.pinned (OpenSpec.upto editNamedSpec)

/-- 'tangramlaw14.EditBeside', WHERE WHAT IT READS IS OF BULK AT MOST 1048576: true; the input reads as it did. -/
def editBesideUptoRow : OpenClaim := { program := "ytdaeaejmikhmcaa", sum := "9fef97664ac780d326328f283d64a05c16b9505985db4059ec3c8712b85249cf", func := "tangram/tangramlaw14.EditBeside", spec := "editBeside", unfollowed := true, recurses := true, apart := false, narrowed := true }
def EditBesideUptoSaid : Prop := editBesideUptoRow.holds Try.pinned (OpenSpec.upto editBesideSpec)

/-- 'tangramlaw14.EditLists', WHERE WHAT IT READS IS OF BULK AT MOST 1048576: true; the input reads as it did. -/
def editListsUptoRow : OpenClaim := { program := "ytdaeaejmikhmcaa", sum := "9fef97664ac780d326328f283d64a05c16b9505985db4059ec3c8712b85249cf", func := "tangram/tangramlaw14.EditLists", spec := "editLists", unfollowed := true, recurses := true, apart := false, narrowed := true }
def EditListsUptoSaid : Prop := editListsUptoRow.holds Try.pinned (OpenSpec.upto editListsSpec)

/-- 'tangramlaw14.EditOne', WHERE WHAT IT READS IS OF BULK AT MOST 1048576: true; the input reads as it did. -/
def editOneUptoRow : OpenClaim := { program := "ytdaeaejmikhmcaa", sum := "9fef97664ac780d326328f283d64a05c16b9505985db4059ec3c8712b85249cf", func := "tangram/tangramlaw14.EditOne", spec := "editOne", unfollowed := true, recurses := true, apart := false, narrowed := true }
def EditOneUptoSaid : Prop := editOneUptoRow.holds Try.pinned (OpenSpec.upto editOneSpec)

/-- 'tangramlaw14.EditBack', WHERE WHAT IT READS IS OF BULK AT MOST 1048576: true; the input reads as it did. -/
def editBackUptoRow : OpenClaim := { program := "ytdaeaejmikhmcaa", sum := "9fef97664ac780d326328f283d64a05c16b9505985db4059ec3c8712b85249cf", func := "tangram/tangramlaw14.EditBack", spec := "editBack", unfollowed := true, recurses := true, apart := false, narrowed := true }
def EditBackUptoSaid : Prop := editBackUptoRow.holds Try.pinned (OpenSpec.upto editBackSpec)

/-- 'tangramlaw14.EditMemory', WHERE WHAT IT READS IS OF BULK AT MOST 1048576: true; the input reads as it did. -/
def editMemoryUptoRow : OpenClaim := { program := "ytdaeaejmikhmcaa", sum := "9fef97664ac780d326328f283d64a05c16b9505985db4059ec3c8712b85249cf", func := "tangram/tangramlaw14.EditMemory", spec := "editMemory", unfollowed := true, recurses := true, apart := false, narrowed := true }
def EditMemoryUptoSaid : Prop := editMemoryUptoRow.holds Try.pinned (OpenSpec.upto editMemorySpec)

end Rows
end Go.Proofs.Ytdaeaejmikhmcaa
