/-
  DERIVED. GIVEN WITH THE SEED: THE CARDS: each row of YthejafdcdcchbaaDoorRows.lean that lists a variable, with what it lists TIED to the program's text (the seventh form; the later family's looks); each row that meets fmt, with fmt's text TOLD by the authors' own Lean function (tested against real Go, not proved from fmt's source: count such statements apart). THE CARD IS WHAT COUNTS. Prove the row's statement (the work); the ties are given (YthejafdcdcchbaaDoorTie.lean); close each card by the builder's one call (the guide's Derived/Test/ToyasCard.lean, 'card_holds'). Laid BY PROGRAM, IN A SANDBOX (cutbox-door.mjs). By AI agents, Wed Nov 11 2026. No macro, syntax, notation, axiom, sorry.
-/
import Derived.Test.YthejafdcdcchbaaDoorRows
import GoSem.ClaimSeven
namespace Go.Proofs.YthejafdcdcchbaaDoor
namespace Rows

/-- THE TIED CARD OF 'tangramlaw03.SimpleMakes'. -/
def simpleMakesCard : Claim7 := { stood := { row := simpleMakesRow, standIns := [], harness := (true, "63b82a061c178418602bf4ab6da3678f1b6bf1544a2b209ad97358707310d6c2"), looks := true }, kinds := [], alts := [], laidByText := true, laidKinds := [.data, .data, .data], laidTests := true, laidLooks := .later }
def SimpleMakesCardSaid : Prop := Claim7.holds Tryd.pinned (.plain (OpenSpec.ofChange simpleMakesSpec)) simpleMakesCard

/-- THE TIED CARD OF 'tangramlaw03.SimpleTexts'. -/
def simpleTextsCard : Claim7 := { stood := { row := simpleTextsRow, standIns := [], harness := (true, "63b82a061c178418602bf4ab6da3678f1b6bf1544a2b209ad97358707310d6c2"), looks := true }, kinds := [], alts := [], laidByText := true, laidKinds := [.data, .data, .data], laidTests := true, laidLooks := .later }
def SimpleTextsCardSaid : Prop := Claim7.holds Tryd.pinned (.plain (OpenSpec.ofChange simpleTextsSpec)) simpleTextsCard

/-- THE TIED CARD OF 'tangramlaw03.SimpleAsks'. -/
def simpleAsksCard : Claim7 := { stood := { row := simpleAsksRow, standIns := [], harness := (true, "63b82a061c178418602bf4ab6da3678f1b6bf1544a2b209ad97358707310d6c2"), looks := true }, kinds := [], alts := [], laidByText := true, laidKinds := [.data, .data, .data], laidTests := true, laidLooks := .later }
def SimpleAsksCardSaid : Prop := Claim7.holds Tryd.pinned (.plain (OpenSpec.ofChange simpleAsksSpec)) simpleAsksCard

/-- THE TIED CARD OF 'tangramlaw03.SimpleOwn'. -/
def simpleOwnCard : Claim7 := { stood := { row := simpleOwnRow, standIns := [], harness := (true, "63b82a061c178418602bf4ab6da3678f1b6bf1544a2b209ad97358707310d6c2"), looks := true }, kinds := [], alts := [], laidByText := true, laidKinds := [.data, .data, .data], laidTests := true, laidLooks := .later }
def SimpleOwnCardSaid : Prop := Claim7.holds Tryd.pinned (.plain (OpenSpec.ofChange simpleOwnSpec)) simpleOwnCard

/-- THE TIED CARD OF 'tangramlaw03.SimpleSames'. -/
def simpleSamesCard : Claim7 := { stood := { row := simpleSamesRow, standIns := [], harness := (true, "63b82a061c178418602bf4ab6da3678f1b6bf1544a2b209ad97358707310d6c2"), looks := true }, kinds := [], alts := [], laidByText := true, laidKinds := [.data, .data, .data], laidTests := true, laidLooks := .later }
def SimpleSamesCardSaid : Prop := Claim7.holds Tryd.pinned (.plain (OpenSpec.ofChange simpleSamesSpec)) simpleSamesCard

/-- THE TIED CARD OF 'tangramlaw03.SimpleHalves'. -/
def simpleHalvesCard : Claim7 := { stood := { row := simpleHalvesRow, standIns := [], harness := (true, "63b82a061c178418602bf4ab6da3678f1b6bf1544a2b209ad97358707310d6c2"), looks := true }, kinds := [], alts := [], laidByText := true, laidKinds := [.data, .data, .data], laidTests := true, laidLooks := .later }
def SimpleHalvesCardSaid : Prop := Claim7.holds Tryd.pinned (.plain (OpenSpec.ofChange simpleHalvesSpec)) simpleHalvesCard

/-- THE TIED CARD OF 'tangramlaw03.SimpleReads'. -/
def simpleReadsCard : Claim7 := { stood := { row := simpleReadsRow, standIns := [], harness := (true, "63b82a061c178418602bf4ab6da3678f1b6bf1544a2b209ad97358707310d6c2"), looks := true }, kinds := [], alts := [], laidByText := true, laidKinds := [.data, .data, .data], laidTests := true, laidLooks := .later }
def SimpleReadsCardSaid : Prop := Claim7.holds Tryd.pinned (.plain (OpenSpec.ofChange simpleReadsSpec)) simpleReadsCard

/-- THE TIED CARD OF 'tangramlaw03.SimpleBack'. -/
def simpleBackCard : Claim7 := { stood := { row := simpleBackRow, standIns := [], harness := (true, "63b82a061c178418602bf4ab6da3678f1b6bf1544a2b209ad97358707310d6c2"), looks := true }, kinds := [], alts := [], laidByText := true, laidKinds := [.data, .data, .data], laidTests := true, laidLooks := .later }
def SimpleBackCardSaid : Prop := Claim7.holds Tryd.pinned (.plain (OpenSpec.ofChange simpleBackSpec)) simpleBackCard

/-- THE SECOND FORM's CARD OF 'tangramlaw03.SimpleMakes'. -/
def simpleMakesUptoCard : Claim7 := { stood := { row := simpleMakesUptoRow, standIns := [], harness := (true, "63b82a061c178418602bf4ab6da3678f1b6bf1544a2b209ad97358707310d6c2"), looks := true }, kinds := [], alts := [], laidByText := true, laidKinds := [.data, .data, .data], laidTests := true, laidLooks := .later }
def SimpleMakesUptoCardSaid : Prop := Claim7.holds Tryd.pinned (.plain (OpenSpec.upto simpleMakesSpec)) simpleMakesUptoCard

/-- THE SECOND FORM's CARD OF 'tangramlaw03.SimpleTexts'. -/
def simpleTextsUptoCard : Claim7 := { stood := { row := simpleTextsUptoRow, standIns := [], harness := (true, "63b82a061c178418602bf4ab6da3678f1b6bf1544a2b209ad97358707310d6c2"), looks := true }, kinds := [], alts := [], laidByText := true, laidKinds := [.data, .data, .data], laidTests := true, laidLooks := .later }
def SimpleTextsUptoCardSaid : Prop := Claim7.holds Tryd.pinned (.plain (OpenSpec.upto simpleTextsSpec)) simpleTextsUptoCard

/-- THE SECOND FORM's CARD OF 'tangramlaw03.SimpleAsks'. -/
def simpleAsksUptoCard : Claim7 := { stood := { row := simpleAsksUptoRow, standIns := [], harness := (true, "63b82a061c178418602bf4ab6da3678f1b6bf1544a2b209ad97358707310d6c2"), looks := true }, kinds := [], alts := [], laidByText := true, laidKinds := [.data, .data, .data], laidTests := true, laidLooks := .later }
def SimpleAsksUptoCardSaid : Prop := Claim7.holds Tryd.pinned (.plain (OpenSpec.upto simpleAsksSpec)) simpleAsksUptoCard

/-- THE SECOND FORM's CARD OF 'tangramlaw03.SimpleOwn'. -/
def simpleOwnUptoCard : Claim7 := { stood := { row := simpleOwnUptoRow, standIns := [], harness := (true, "63b82a061c178418602bf4ab6da3678f1b6bf1544a2b209ad97358707310d6c2"), looks := true }, kinds := [], alts := [], laidByText := true, laidKinds := [.data, .data, .data], laidTests := true, laidLooks := .later }
def SimpleOwnUptoCardSaid : Prop := Claim7.holds Tryd.pinned (.plain (OpenSpec.upto simpleOwnSpec)) simpleOwnUptoCard

/-- THE SECOND FORM's CARD OF 'tangramlaw03.SimpleSames'. -/
def simpleSamesUptoCard : Claim7 := { stood := { row := simpleSamesUptoRow, standIns := [], harness := (true, "63b82a061c178418602bf4ab6da3678f1b6bf1544a2b209ad97358707310d6c2"), looks := true }, kinds := [], alts := [], laidByText := true, laidKinds := [.data, .data, .data], laidTests := true, laidLooks := .later }
def SimpleSamesUptoCardSaid : Prop := Claim7.holds Tryd.pinned (.plain (OpenSpec.upto simpleSamesSpec)) simpleSamesUptoCard

/-- THE SECOND FORM's CARD OF 'tangramlaw03.SimpleHalves'. -/
def simpleHalvesUptoCard : Claim7 := { stood := { row := simpleHalvesUptoRow, standIns := [], harness := (true, "63b82a061c178418602bf4ab6da3678f1b6bf1544a2b209ad97358707310d6c2"), looks := true }, kinds := [], alts := [], laidByText := true, laidKinds := [.data, .data, .data], laidTests := true, laidLooks := .later }
def SimpleHalvesUptoCardSaid : Prop := Claim7.holds Tryd.pinned (.plain (OpenSpec.upto simpleHalvesSpec)) simpleHalvesUptoCard

/-- THE SECOND FORM's CARD OF 'tangramlaw03.SimpleReads'. -/
def simpleReadsUptoCard : Claim7 := { stood := { row := simpleReadsUptoRow, standIns := [], harness := (true, "63b82a061c178418602bf4ab6da3678f1b6bf1544a2b209ad97358707310d6c2"), looks := true }, kinds := [], alts := [], laidByText := true, laidKinds := [.data, .data, .data], laidTests := true, laidLooks := .later }
def SimpleReadsUptoCardSaid : Prop := Claim7.holds Tryd.pinned (.plain (OpenSpec.upto simpleReadsSpec)) simpleReadsUptoCard

/-- THE SECOND FORM's CARD OF 'tangramlaw03.SimpleBack'. -/
def simpleBackUptoCard : Claim7 := { stood := { row := simpleBackUptoRow, standIns := [], harness := (true, "63b82a061c178418602bf4ab6da3678f1b6bf1544a2b209ad97358707310d6c2"), looks := true }, kinds := [], alts := [], laidByText := true, laidKinds := [.data, .data, .data], laidTests := true, laidLooks := .later }
def SimpleBackUptoCardSaid : Prop := Claim7.holds Tryd.pinned (.plain (OpenSpec.upto simpleBackSpec)) simpleBackUptoCard
end Rows
end Go.Proofs.YthejafdcdcchbaaDoor
