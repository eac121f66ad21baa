/-
  DERIVED. GIVEN WITH THE SEED: THE CARDS: each row of YtjgaicdieddekaaDoorRows.lean that lists a variable, with what it lists TIED to the program's text (the seventh form; the later family's looks); each row that meets fmt, with fmt's text TOLD by the authors' own Lean function (tested against real Go, not proved from fmt's source: count such statements apart). THE CARD IS WHAT COUNTS. Prove the row's statement (the work); the ties are given (YtjgaicdieddekaaDoorTie.lean); close each card by the builder's one call (the guide's Derived/Test/ToyasCard.lean, 'card_holds'). Laid BY PROGRAM, IN A SANDBOX (cutbox-door.mjs). By AI agents, Wed Nov 11 2026. No macro, syntax, notation, axiom, sorry.
-/
import Derived.Test.YtjgaicdieddekaaDoorRows
import GoSem.ClaimSeven
namespace Go.Proofs.YtjgaicdieddekaaDoor
namespace Rows

/-- THE TIED CARD OF 'tangramlaw01.NumsScans'. -/
def numsScansCard : Claim7 := { stood := { row := numsScansRow, standIns := [], harness := (true, "934ca8a070152d78a5d86b6129badf52c6f877e8ba9dbd16dc9b9d0710d24b5c"), looks := true }, kinds := [], alts := [], laidByText := true, laidKinds := [.data, .data, .data], laidTests := true, laidLooks := .later }
def NumsScansCardSaid : Prop := Claim7.holds Tryd.pinned (.plain (OpenSpec.ofChange numsScansSpec)) numsScansCard

/-- THE TIED CARD OF 'tangramlaw01.NumsJoins'. -/
def numsJoinsCard : Claim7 := { stood := { row := numsJoinsRow, standIns := [], harness := (true, "934ca8a070152d78a5d86b6129badf52c6f877e8ba9dbd16dc9b9d0710d24b5c"), looks := true }, kinds := [], alts := [], laidByText := true, laidKinds := [.data, .data, .data], laidTests := true, laidLooks := .later }
def NumsJoinsCardSaid : Prop := Claim7.holds Tryd.pinned (.plain (OpenSpec.ofChange numsJoinsSpec)) numsJoinsCard

/-- THE TIED CARD OF 'tangramlaw01.NumsLies'. -/
def numsLiesCard : Claim7 := { stood := { row := numsLiesRow, standIns := [], harness := (true, "934ca8a070152d78a5d86b6129badf52c6f877e8ba9dbd16dc9b9d0710d24b5c"), looks := true }, kinds := [], alts := [], laidByText := true, laidKinds := [.data, .data, .data], laidTests := true, laidLooks := .later }
def NumsLiesCardSaid : Prop := Claim7.holds Tryd.pinned (.plain (OpenSpec.ofChange numsLiesSpec)) numsLiesCard

/-- THE TIED CARD OF 'tangramlaw01.NumsTexts'. -/
def numsTextsCard : Claim7 := { stood := { row := numsTextsRow, standIns := [], harness := (true, "934ca8a070152d78a5d86b6129badf52c6f877e8ba9dbd16dc9b9d0710d24b5c"), looks := true }, kinds := [], alts := [], laidByText := true, laidKinds := [.data, .data, .data], laidTests := true, laidLooks := .later }
def NumsTextsCardSaid : Prop := Claim7.holds Tryd.pinned (.plain (OpenSpec.ofChange numsTextsSpec)) numsTextsCard

/-- THE TIED CARD OF 'tangramlaw01.NumsBack'. -/
def numsBackCard : Claim7 := { stood := { row := numsBackRow, standIns := [], harness := (true, "934ca8a070152d78a5d86b6129badf52c6f877e8ba9dbd16dc9b9d0710d24b5c"), looks := true }, kinds := [], alts := [], laidByText := true, laidKinds := [.data, .data, .data], laidTests := true, laidLooks := .later }
def NumsBackCardSaid : Prop := Claim7.holds Tryd.pinned (.plain (OpenSpec.ofChange numsBackSpec)) numsBackCard

/-- THE TIED CARD OF 'tangramlaw01.NumsOwn'. -/
def numsOwnCard : Claim7 := { stood := { row := numsOwnRow, standIns := [], harness := (true, "934ca8a070152d78a5d86b6129badf52c6f877e8ba9dbd16dc9b9d0710d24b5c"), looks := true }, kinds := [], alts := [], laidByText := true, laidKinds := [.data, .data, .data], laidTests := true, laidLooks := .later }
def NumsOwnCardSaid : Prop := Claim7.holds Tryd.pinned (.plain (OpenSpec.ofChange numsOwnSpec)) numsOwnCard

/-- THE TIED CARD OF 'tangramlaw02.ParseBack'. -/
def parseBackCard : Claim7 := { stood := { row := parseBackRow, standIns := [], harness := (true, "934ca8a070152d78a5d86b6129badf52c6f877e8ba9dbd16dc9b9d0710d24b5c"), looks := true }, kinds := [], alts := [], laidByText := true, laidKinds := [.data, .data, .data], laidTests := true, laidLooks := .later }
def ParseBackCardSaid : Prop := Claim7.holds Tryd.pinned (.plain (OpenSpec.ofChange parseBackSpec)) parseBackCard

/-- THE SECOND FORM's CARD OF 'tangramlaw01.NumsScans'. -/
def numsScansUptoCard : Claim7 := { stood := { row := numsScansUptoRow, standIns := [], harness := (true, "934ca8a070152d78a5d86b6129badf52c6f877e8ba9dbd16dc9b9d0710d24b5c"), looks := true }, kinds := [], alts := [], laidByText := true, laidKinds := [.data, .data, .data], laidTests := true, laidLooks := .later }
def NumsScansUptoCardSaid : Prop := Claim7.holds Tryd.pinned (.plain (OpenSpec.upto numsScansSpec)) numsScansUptoCard

/-- THE SECOND FORM's CARD OF 'tangramlaw01.NumsJoins'. -/
def numsJoinsUptoCard : Claim7 := { stood := { row := numsJoinsUptoRow, standIns := [], harness := (true, "934ca8a070152d78a5d86b6129badf52c6f877e8ba9dbd16dc9b9d0710d24b5c"), looks := true }, kinds := [], alts := [], laidByText := true, laidKinds := [.data, .data, .data], laidTests := true, laidLooks := .later }
def NumsJoinsUptoCardSaid : Prop := Claim7.holds Tryd.pinned (.plain (OpenSpec.upto numsJoinsSpec)) numsJoinsUptoCard

/-- THE SECOND FORM's CARD OF 'tangramlaw01.NumsLies'. -/
def numsLiesUptoCard : Claim7 := { stood := { row := numsLiesUptoRow, standIns := [], harness := (true, "934ca8a070152d78a5d86b6129badf52c6f877e8ba9dbd16dc9b9d0710d24b5c"), looks := true }, kinds := [], alts := [], laidByText := true, laidKinds := [.data, .data, .data], laidTests := true, laidLooks := .later }
def NumsLiesUptoCardSaid : Prop := Claim7.holds Tryd.pinned (.plain (OpenSpec.upto numsLiesSpec)) numsLiesUptoCard

/-- THE SECOND FORM's CARD OF 'tangramlaw01.NumsTexts'. -/
def numsTextsUptoCard : Claim7 := { stood := { row := numsTextsUptoRow, standIns := [], harness := (true, "934ca8a070152d78a5d86b6129badf52c6f877e8ba9dbd16dc9b9d0710d24b5c"), looks := true }, kinds := [], alts := [], laidByText := true, laidKinds := [.data, .data, .data], laidTests := true, laidLooks := .later }
def NumsTextsUptoCardSaid : Prop := Claim7.holds Tryd.pinned (.plain (OpenSpec.upto numsTextsSpec)) numsTextsUptoCard

/-- THE SECOND FORM's CARD OF 'tangramlaw01.NumsBack'. -/
def numsBackUptoCard : Claim7 := { stood := { row := numsBackUptoRow, standIns := [], harness := (true, "934ca8a070152d78a5d86b6129badf52c6f877e8ba9dbd16dc9b9d0710d24b5c"), looks := true }, kinds := [], alts := [], laidByText := true, laidKinds := [.data, .data, .data], laidTests := true, laidLooks := .later }
def NumsBackUptoCardSaid : Prop := Claim7.holds Tryd.pinned (.plain (OpenSpec.upto numsBackSpec)) numsBackUptoCard

/-- THE SECOND FORM's CARD OF 'tangramlaw01.NumsOwn'. -/
def numsOwnUptoCard : Claim7 := { stood := { row := numsOwnUptoRow, standIns := [], harness := (true, "934ca8a070152d78a5d86b6129badf52c6f877e8ba9dbd16dc9b9d0710d24b5c"), looks := true }, kinds := [], alts := [], laidByText := true, laidKinds := [.data, .data, .data], laidTests := true, laidLooks := .later }
def NumsOwnUptoCardSaid : Prop := Claim7.holds Tryd.pinned (.plain (OpenSpec.upto numsOwnSpec)) numsOwnUptoCard

/-- THE SECOND FORM's CARD OF 'tangramlaw02.ParseBack'. -/
def parseBackUptoCard : Claim7 := { stood := { row := parseBackUptoRow, standIns := [], harness := (true, "934ca8a070152d78a5d86b6129badf52c6f877e8ba9dbd16dc9b9d0710d24b5c"), looks := true }, kinds := [], alts := [], laidByText := true, laidKinds := [.data, .data, .data], laidTests := true, laidLooks := .later }
def ParseBackUptoCardSaid : Prop := Claim7.holds Tryd.pinned (.plain (OpenSpec.upto parseBackSpec)) parseBackUptoCard
end Rows
end Go.Proofs.YtjgaicdieddekaaDoor
