/-
  No cell of these rows narrows 'for every input' (looked for: loops, veiled, ifaces, maps, wideKeys, modest, calm, conditions, laid).
  DERIVED. THE GIVEN ROWS OF THIS SEAT. 8 by the template 'for every input the law returns true; each argument reads behind the call as it read before'; 0 by the template 'total and deterministic' (their statements: YthfoliejhdpbaaaTotals.lean).
  GIVEN WITH THE SEED: the statements are not yours to turn. If you find one false, say at which input.
  Laid BY PROGRAM, IN A SANDBOX (cutbox-rows.mjs): the forced cells as the released guide's own fill.sh prints them over the translation 3af67b770f09038a… (all of the seat's roots in one cut). By AI agents, Wed Nov 11 2026. No macro, syntax, notation, axiom, sorry.
-/
import Derived.Test.YthfoliejhdpbaaaChecked
import GoSem.Claim
import GoSem.ClaimJoined
import GoSem.ClaimMapViews
import Derived.JoinedTies
import Derived.KernelRfl
namespace Go.Proofs.Ythfoliejhdpbaaa
/- THE CELL 'sum', in the pinned program and in every row, IS THE sha256 OF THE DUMP (.gsa) THAT YthfoliejhdpbaaaProg.lean LOADS. Nothing in Lean hashes anything: it is a label: what it is worth is what the hold of that sum in a sandbox is worth. -/
noncomputable def Try.pinned : Pinned := { name := "ythfoliejhdpbaaa", sum := "3af67b770f09038ab039c2d1ea14816410abdc7f27fcc362cfcd2348684ae749", checked := Try.checked }
namespace Rows
def none {H : Type} : Left H := { results := [], args := [] }

/-- 'tangramlaw26.CrossPieces': WHATEVER THE INPUT: true; the input reads as it did. -/
def crossPiecesSpec : ChangeSpec := { name := "crossPieces", fn := fun _ => fun
  | [d1, d2, d3, d4] => { results := [.lit (.bool true)], args := [d1, d2, d3, d4] }
  | _ => none }
def crossPiecesRow : OpenClaim := { program := "ythfoliejhdpbaaa", sum := "3af67b770f09038ab039c2d1ea14816410abdc7f27fcc362cfcd2348684ae749", func := "tangram/tangramlaw26.CrossPieces", spec := "crossPieces", unfollowed := true, recurses := true, plainKeys := false, apart := false }
def CrossPiecesSaid : Prop := crossPiecesRow.holds Try.pinned (OpenSpec.ofChange crossPiecesSpec)

/-- ITS FALSE NEIGHBOUR: 'it returns false'. Refute it at one input. -/
def crossPiecesWrong : ChangeSpec := { name := "crossPieces", fn := fun _ => fun
  | [d1, d2, d3, d4] => { results := [.lit (.bool false)], args := [d1, d2, d3, d4] }
  | _ => none }
def CrossPiecesWrongFalsely : Prop := crossPiecesRow.holds Try.pinned (OpenSpec.ofChange crossPiecesWrong)

/-- 'tangramlaw26.CrossTurns': WHATEVER THE INPUT: true; the input reads as it did. -/
def crossTurnsSpec : ChangeSpec := { name := "crossTurns", fn := fun _ => fun
  | [d1, d2, d3, d4] => { results := [.lit (.bool true)], args := [d1, d2, d3, d4] }
  | _ => none }
def crossTurnsRow : OpenClaim := { program := "ythfoliejhdpbaaa", sum := "3af67b770f09038ab039c2d1ea14816410abdc7f27fcc362cfcd2348684ae749", func := "tangram/tangramlaw26.CrossTurns", spec := "crossTurns", unfollowed := true, recurses := true, plainKeys := false, apart := false }
def CrossTurnsSaid : Prop := crossTurnsRow.holds Try.pinned (OpenSpec.ofChange crossTurnsSpec)

/-- ITS FALSE NEIGHBOUR: 'it returns false'. Refute it at one input. -/
def crossTurnsWrong : ChangeSpec := { name := "crossTurns", fn := fun _ => fun
  | [d1, d2, d3, d4] => { results := [.lit (.bool false)], args := [d1, d2, d3, d4] }
  | _ => none }
def CrossTurnsWrongFalsely : Prop := crossTurnsRow.holds Try.pinned (OpenSpec.ofChange crossTurnsWrong)

/-- 'tangramlaw26.CrossFirst': WHATEVER THE INPUT: true; the input reads as it did. -/
def crossFirstSpec : ChangeSpec := { name := "crossFirst", fn := fun _ => fun
  | [d1, d2] => { results := [.lit (.bool true)], args := [d1, d2] }
  | _ => none }
def crossFirstRow : OpenClaim := { program := "ythfoliejhdpbaaa", sum := "3af67b770f09038ab039c2d1ea14816410abdc7f27fcc362cfcd2348684ae749", func := "tangram/tangramlaw26.CrossFirst", spec := "crossFirst", unfollowed := true, recurses := true, plainKeys := false, apart := false }
def CrossFirstSaid : Prop := crossFirstRow.holds Try.pinned (OpenSpec.ofChange crossFirstSpec)

/-- ITS FALSE NEIGHBOUR: 'it returns false'. Refute it at one input. -/
def crossFirstWrong : ChangeSpec := { name := "crossFirst", fn := fun _ => fun
  | [d1, d2] => { results := [.lit (.bool false)], args := [d1, d2] }
  | _ => none }
def CrossFirstWrongFalsely : Prop := crossFirstRow.holds Try.pinned (OpenSpec.ofChange crossFirstWrong)

/-- 'tangramlaw26.CrossRotation': WHATEVER THE INPUT: true; the input reads as it did. -/
def crossRotationSpec : ChangeSpec := { name := "crossRotation", fn := fun _ => fun
  | [d1, d2] => { results := [.lit (.bool true)], args := [d1, d2] }
  | _ => none }
def crossRotationRow : OpenClaim := { program := "ythfoliejhdpbaaa", sum := "3af67b770f09038ab039c2d1ea14816410abdc7f27fcc362cfcd2348684ae749", func := "tangram/tangramlaw26.CrossRotation", spec := "crossRotation", unfollowed := true, recurses := true, plainKeys := false, apart := false }
def CrossRotationSaid : Prop := crossRotationRow.holds Try.pinned (OpenSpec.ofChange crossRotationSpec)

/-- ITS FALSE NEIGHBOUR: 'it returns false'. Refute it at one input. -/
def crossRotationWrong : ChangeSpec := { name := "crossRotation", fn := fun _ => fun
  | [d1, d2] => { results := [.lit (.bool false)], args := [d1, d2] }
  | _ => none }
def CrossRotationWrongFalsely : Prop := crossRotationRow.holds Try.pinned (OpenSpec.ofChange crossRotationWrong)

/-- 'tangramlaw26.CrossArea': WHATEVER THE INPUT: true; the input reads as it did. -/
def crossAreaSpec : ChangeSpec := { name := "crossArea", fn := fun _ => fun
  | [d] => { results := [.lit (.bool true)], args := [d] }
  | _ => none }
def crossAreaRow : OpenClaim := { program := "ythfoliejhdpbaaa", sum := "3af67b770f09038ab039c2d1ea14816410abdc7f27fcc362cfcd2348684ae749", func := "tangram/tangramlaw26.CrossArea", spec := "crossArea", unfollowed := true, recurses := true, plainKeys := false, apart := false }
def CrossAreaSaid : Prop := crossAreaRow.holds Try.pinned (OpenSpec.ofChange crossAreaSpec)

/-- ITS FALSE NEIGHBOUR: 'it returns false'. Refute it at one input. -/
def crossAreaWrong : ChangeSpec := { name := "crossArea", fn := fun _ => fun
  | [d] => { results := [.lit (.bool false)], args := [d] }
  | _ => none }
def CrossAreaWrongFalsely : Prop := crossAreaRow.holds Try.pinned (OpenSpec.ofChange crossAreaWrong)

/-- 'tangramlaw26.CrossMoved': WHATEVER THE INPUT: true; the input reads as it did. -/
def crossMovedSpec : ChangeSpec := { name := "crossMoved", fn := fun _ => fun
  | [d1, d2, d3, d4, d5] => { results := [.lit (.bool true)], args := [d1, d2, d3, d4, d5] }
  | _ => none }
def crossMovedRow : OpenClaim := { program := "ythfoliejhdpbaaa", sum := "3af67b770f09038ab039c2d1ea14816410abdc7f27fcc362cfcd2348684ae749", func := "tangram/tangramlaw26.CrossMoved", spec := "crossMoved", unfollowed := true, recurses := true, plainKeys := false, apart := false }
def CrossMovedSaid : Prop := crossMovedRow.holds Try.pinned (OpenSpec.ofChange crossMovedSpec)

/-- ITS FALSE NEIGHBOUR: 'it returns false'. Refute it at one input. -/
def crossMovedWrong : ChangeSpec := { name := "crossMoved", fn := fun _ => fun
  | [d1, d2, d3, d4, d5] => { results := [.lit (.bool false)], args := [d1, d2, d3, d4, d5] }
  | _ => none }
def CrossMovedWrongFalsely : Prop := crossMovedRow.holds Try.pinned (OpenSpec.ofChange crossMovedWrong)

/-- 'tangramlaw26.CrossAreas': WHATEVER THE INPUT: true; the input reads as it did. -/
def crossAreasSpec : ChangeSpec := { name := "crossAreas", fn := fun _ => fun
  | [d1, d2] => { results := [.lit (.bool true)], args := [d1, d2] }
  | _ => none }
def crossAreasRow : OpenClaim := { program := "ythfoliejhdpbaaa", sum := "3af67b770f09038ab039c2d1ea14816410abdc7f27fcc362cfcd2348684ae749", func := "tangram/tangramlaw26.CrossAreas", spec := "crossAreas", unfollowed := true, recurses := true, plainKeys := false, apart := false }
def CrossAreasSaid : Prop := crossAreasRow.holds Try.pinned (OpenSpec.ofChange crossAreasSpec)

/-- ITS FALSE NEIGHBOUR: 'it returns false'. Refute it at one input. -/
def crossAreasWrong : ChangeSpec := { name := "crossAreas", fn := fun _ => fun
  | [d1, d2] => { results := [.lit (.bool false)], args := [d1, d2] }
  | _ => none }
def CrossAreasWrongFalsely : Prop := crossAreasRow.holds Try.pinned (OpenSpec.ofChange crossAreasWrong)

/-- 'tangramlaw26.CrossFlat': WHATEVER THE INPUT: true; the input reads as it did. -/
def crossFlatSpec : ChangeSpec := { name := "crossFlat", fn := fun _ => fun
  | [d1, d2] => { results := [.lit (.bool true)], args := [d1, d2] }
  | _ => none }
def crossFlatRow : OpenClaim := { program := "ythfoliejhdpbaaa", sum := "3af67b770f09038ab039c2d1ea14816410abdc7f27fcc362cfcd2348684ae749", func := "tangram/tangramlaw26.CrossFlat", spec := "crossFlat", unfollowed := true, recurses := true, plainKeys := false, apart := false }
def CrossFlatSaid : Prop := crossFlatRow.holds Try.pinned (OpenSpec.ofChange crossFlatSpec)

/-- ITS FALSE NEIGHBOUR: 'it returns false'. Refute it at one input. -/
def crossFlatWrong : ChangeSpec := { name := "crossFlat", fn := fun _ => fun
  | [d1, d2] => { results := [.lit (.bool false)], args := [d1, d2] }
  | _ => none }
def CrossFlatWrongFalsely : Prop := crossFlatRow.holds Try.pinned (OpenSpec.ofChange crossFlatWrong)

/- THE SECOND FORM. 'bulk': how many values and letters a reading holds, each counted each time it is reached (what is shared counts as often as it is met; a slice's spare places count too). A statement '..UptoSaid' is the law's where the arguments, and the package variables that the reading takes, are together of bulk at most 1048576: NARROWER than '..Said'. Prove '..Said' where nothing that the law and all that it calls make is longer than what came in: it says more and counts as full. Else prove '..UptoSaid'. A law counts once. -/
mutual
def uptoBulk {H : Type} : DataW H → Nat
  | .lit (.string bytes) => bytes.length + 1
  | .lit _ => 1
  | .nil => 1
  | .ptr d => uptoBulk d + 1
  | .slice elems spare => uptoBulkAll elems + uptoBulkAll spare + 1
  | .agg parts => uptoBulkAll parts + 1
  | .iface _ d => uptoBulk d + 1
  | .map entries => uptoBulkEntries entries + 1
  | .held _ => 1
def uptoBulkAll {H : Type} : List (DataW H) → Nat
  | [] => 0
  | d :: r => uptoBulk d + uptoBulkAll r
def uptoBulkEntries {H : Type} : List (Lit × DataW H) → Nat
  | [] => 0
  | x :: r => uptoBulkEntry x + uptoBulkEntries r
def uptoBulkEntry {H : Type} : Lit × DataW H → Nat
  | (.string bytes, d) => bytes.length + uptoBulk d + 1
  | (_, d) => uptoBulk d + 1
 end
def uptoSmall : (H : Type) → List (DataW H) → Bool := fun _ ds => decide (uptoBulkAll ds ≤ 1048576)
def OpenSpec.upto (s : _root_.Go.ChangeSpec) : _root_.Go.OpenSpec := { _root_.Go.OpenSpec.ofChange s with cond := some uptoSmall }

/-- 'tangramlaw26.CrossPieces', WHERE WHAT IT READS IS OF BULK AT MOST 1048576: true; the input reads as it did. -/
def crossPiecesUptoRow : OpenClaim := { program := "ythfoliejhdpbaaa", sum := "3af67b770f09038ab039c2d1ea14816410abdc7f27fcc362cfcd2348684ae749", func := "tangram/tangramlaw26.CrossPieces", spec := "crossPieces", unfollowed := true, recurses := true, plainKeys := false, apart := false, narrowed := true }
def CrossPiecesUptoSaid : Prop := crossPiecesUptoRow.holds Try.pinned (OpenSpec.upto crossPiecesSpec)

/-- 'tangramlaw26.CrossTurns', WHERE WHAT IT READS IS OF BULK AT MOST 1048576: true; the input reads as it did. -/
def crossTurnsUptoRow : OpenClaim := { program := "ythfoliejhdpbaaa", sum := "3af67b770f09038ab039c2d1ea14816410abdc7f27fcc362cfcd2348684ae749", func := "tangram/tangramlaw26.CrossTurns", spec := "crossTurns", unfollowed := true, recurses := true, plainKeys := false, apart := false, narrowed := true }
def CrossTurnsUptoSaid : Prop := crossTurnsUptoRow.holds Try.pinned (OpenSpec.upto crossTurnsSpec)

/-- 'tangramlaw26.CrossFirst', WHERE WHAT IT READS IS OF BULK AT MOST 1048576: true; the input reads as it did. -/
def crossFirstUptoRow : OpenClaim := { program := "ythfoliejhdpbaaa", sum := "3af67b770f09038ab039c2d1ea14816410abdc7f27fcc362cfcd2348684ae749", func := "tangram/tangramlaw26.CrossFirst", spec := "crossFirst", unfollowed := true, recurses := true, plainKeys := false, apart := false, narrowed := true }
def CrossFirstUptoSaid : Prop := crossFirstUptoRow.holds Try.pinned (OpenSpec.upto crossFirstSpec)

/-- 'tangramlaw26.CrossRotation', WHERE WHAT IT READS IS OF BULK AT MOST 1048576: true; the input reads as it did. -/
def crossRotationUptoRow : OpenClaim := { program := "ythfoliejhdpbaaa", sum := "3af67b770f09038ab039c2d1ea14816410abdc7f27fcc362cfcd2348684ae749", func := "tangram/tangramlaw26.CrossRotation", spec := "crossRotation", unfollowed := true, recurses := true, plainKeys := false, apart := false, narrowed := true }
def CrossRotationUptoSaid : Prop := crossRotationUptoRow.holds Try.pinned (OpenSpec.upto crossRotationSpec)

/-- 'tangramlaw26.CrossArea', WHERE WHAT IT READS IS OF BULK AT MOST 1048576: true; the input reads as it did. -/
def crossAreaUptoRow : OpenClaim := { program := "ythfoliejhdpbaaa", sum := "3af67b770f09038ab039c2d1ea14816410abdc7f27fcc362cfcd2348684ae749", func := "tangram/tangramlaw26.CrossArea", spec := "crossArea", unfollowed := true, recurses := true, plainKeys := false, apart := false, narrowed := true }
def CrossAreaUptoSaid : Prop := crossAreaUptoRow.holds Try.pinned (OpenSpec.upto crossAreaSpec)

/-- 'tangramlaw26.CrossMoved', WHERE WHAT IT READS IS OF BULK AT MOST 1048576: true; the input reads as it did. -/
def crossMovedUptoRow : OpenClaim := { program := "ythfoliejhdpbaaa", sum := "3af67b770f09038ab039c2d1ea14816410abdc7f27fcc362cfcd2348684ae749", func := "tangram/tangramlaw26.CrossMoved", spec := "crossMoved", unfollowed := true, recurses := true, plainKeys := false, apart := false, narrowed := true }
def CrossMovedUptoSaid : Prop := crossMovedUptoRow.holds Try.pinned (OpenSpec.upto crossMovedSpec)

/-- 'tangramlaw26.CrossAreas', WHERE WHAT IT READS IS OF BULK AT MOST 1048576: true; the input reads as it did. -/
def crossAreasUptoRow : OpenClaim := { program := "ythfoliejhdpbaaa", sum := "3af67b770f09038ab039c2d1ea14816410abdc7f27fcc362cfcd2348684ae749", func := "tangram/tangramlaw26.CrossAreas", spec := "crossAreas", unfollowed := true, recurses := true, plainKeys := false, apart := false, narrowed := true }
def CrossAreasUptoSaid : Prop := crossAreasUptoRow.holds Try.pinned (OpenSpec.upto crossAreasSpec)

/-- 'tangramlaw26.CrossFlat', WHERE WHAT IT READS IS OF BULK AT MOST 1048576: true; the input reads as it did. -/
def crossFlatUptoRow : OpenClaim := { program := "ythfoliejhdpbaaa", sum := "3af67b770f09038ab039c2d1ea14816410abdc7f27fcc362cfcd2348684ae749", func := "tangram/tangramlaw26.CrossFlat", spec := "crossFlat", unfollowed := true, recurses := true, plainKeys := false, apart := false, narrowed := true }
def CrossFlatUptoSaid : Prop := crossFlatUptoRow.holds Try.pinned (OpenSpec.upto crossFlatSpec)

end Rows
end Go.Proofs.Ythfoliejhdpbaaa
