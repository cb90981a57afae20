/-
  DERIVED. GIVEN WITH THE SEED: THE CARDS: each row of YtcgdncpioafbdaaGreatDoorRows.lean that lists a variable, with what it lists TIED to the program's text (the seventh form; the later family's looks); each row that meets fmt, with fmt's text TOLD by the authors' own Lean function (tested against real Go, not proved from fmt's source: count such statements apart). THE CARD IS WHAT COUNTS. Prove the row's statement (the work); the ties are given (YtcgdncpioafbdaaGreatDoorTie.lean); close each card by the builder's one call (the guide's Derived/Test/ToyasCard.lean, 'card_holds'). Laid BY PROGRAM, IN A SANDBOX (cutbox-door.mjs). By AI agents, Wed Nov 11 2026. No macro, syntax, notation, axiom, sorry.
-/
import Derived.Test.YtcgdncpioafbdaaGreatDoorRows
import GoSem.ClaimSeven
namespace Go.Proofs.YtcgdncpioafbdaaGreatDoor
namespace Rows

/-- THE TIED CARD OF 'vidimuslaw16.LexTells'. -/
def lexTellsCard : Claim7 := { stood := { row := lexTellsRow, standIns := [], harness := (true, "890fae4095338e243913fac227808f3884bb7d0425187019eadb0545e2bf9cfc"), looks := true }, kinds := [], alts := [], laidByText := true, laidKinds := [.data, .data, .data, .data, .sentinel, .sentinel, .pinned, .pinned], laidTests := true, laidLooks := .later }
def LexTellsCardSaid : Prop := Claim7.holds Tryz.pinned (.plain (OpenSpec.ofChange lexTellsSpec)) lexTellsCard

/-- THE TIED CARD OF 'vidimuslaw16.LexTexts'. -/
def lexTextsCard : Claim7 := { stood := { row := lexTextsRow, standIns := [], harness := (true, "890fae4095338e243913fac227808f3884bb7d0425187019eadb0545e2bf9cfc"), looks := true }, kinds := [], alts := [], laidByText := true, laidKinds := [.data, .data, .data, .data, .sentinel, .sentinel, .pinned, .pinned], laidTests := true, laidLooks := .later }
def LexTextsCardSaid : Prop := Claim7.holds Tryz.pinned (.plain (OpenSpec.ofChange lexTextsSpec)) lexTextsCard

/-- THE TIED CARD OF 'vidimuslaw16.LexBlanks'. -/
def lexBlanksCard : Claim7 := { stood := { row := lexBlanksRow, standIns := [], harness := (true, "890fae4095338e243913fac227808f3884bb7d0425187019eadb0545e2bf9cfc"), looks := true }, kinds := [], alts := [], laidByText := true, laidKinds := [.data, .data, .data, .data, .sentinel, .sentinel, .pinned, .pinned], laidTests := true, laidLooks := .later }
def LexBlanksCardSaid : Prop := Claim7.holds Tryz.pinned (.plain (OpenSpec.ofChange lexBlanksSpec)) lexBlanksCard

/-- THE TIED CARD OF 'vidimuslaw19.PlanThree'. -/
def planThreeCard : Claim7 := { stood := { row := planThreeRow, standIns := [], harness := (true, "890fae4095338e243913fac227808f3884bb7d0425187019eadb0545e2bf9cfc"), looks := true }, kinds := [], alts := [], laidByText := true, laidKinds := [.data, .data, .data, .data, .sentinel, .sentinel, .pinned, .pinned], laidTests := true, laidLooks := .later }
def PlanThreeCardSaid : Prop := Claim7.holds Tryz.pinned (.plain (OpenSpec.ofChange planThreeSpec)) planThreeCard

/-- THE TIED CARD OF 'vidimuslaw19.PlanCells'. -/
def planCellsCard : Claim7 := { stood := { row := planCellsRow, standIns := [], harness := (true, "890fae4095338e243913fac227808f3884bb7d0425187019eadb0545e2bf9cfc"), looks := true }, kinds := [], alts := [], laidByText := true, laidKinds := [.data, .data, .data, .data, .sentinel, .sentinel, .pinned, .pinned], laidTests := true, laidLooks := .later }
def PlanCellsCardSaid : Prop := Claim7.holds Tryz.pinned (.plain (OpenSpec.ofChange planCellsSpec)) planCellsCard

/-- THE TIED CARD OF 'vidimuslaw16.LexJoins'. -/
def lexJoinsCard : Claim7 := { stood := { row := lexJoinsRow, standIns := [], harness := (true, "890fae4095338e243913fac227808f3884bb7d0425187019eadb0545e2bf9cfc"), looks := true }, kinds := [], alts := [], laidByText := true, laidKinds := [.data, .data, .data, .data, .sentinel, .sentinel, .pinned, .pinned], laidTests := true, laidLooks := .later }
def LexJoinsCardSaid : Prop := Claim7.holds Tryz.pinned (.plain (OpenSpec.ofChange lexJoinsSpec)) lexJoinsCard

/-- THE TIED CARD OF 'vidimuslaw17.ParseTexts'. -/
def parseTextsCard : Claim7 := { stood := { row := parseTextsRow, standIns := [], harness := (true, "890fae4095338e243913fac227808f3884bb7d0425187019eadb0545e2bf9cfc"), looks := true }, kinds := [], alts := [], laidByText := true, laidKinds := [.data, .data, .data, .data, .sentinel, .sentinel, .pinned, .pinned], laidTests := true, laidLooks := .later }
def ParseTextsCardSaid : Prop := Claim7.holds Tryz.pinned (.plain (OpenSpec.ofChange parseTextsSpec)) parseTextsCard

/-- THE TIED CARD OF 'vidimuslaw17.ParseBlanks'. -/
def parseBlanksCard : Claim7 := { stood := { row := parseBlanksRow, standIns := [], harness := (true, "890fae4095338e243913fac227808f3884bb7d0425187019eadb0545e2bf9cfc"), looks := true }, kinds := [], alts := [], laidByText := true, laidKinds := [.data, .data, .data, .data, .sentinel, .sentinel, .pinned, .pinned], laidTests := true, laidLooks := .later }
def ParseBlanksCardSaid : Prop := Claim7.holds Tryz.pinned (.plain (OpenSpec.ofChange parseBlanksSpec)) parseBlanksCard

/-- THE TIED CARD OF 'vidimuslaw17.ParseNames'. -/
def parseNamesCard : Claim7 := { stood := { row := parseNamesRow, standIns := [], harness := (true, "890fae4095338e243913fac227808f3884bb7d0425187019eadb0545e2bf9cfc"), looks := true }, kinds := [], alts := [], laidByText := true, laidKinds := [.data, .data, .data, .data, .sentinel, .sentinel, .pinned, .pinned], laidTests := true, laidLooks := .later }
def ParseNamesCardSaid : Prop := Claim7.holds Tryz.pinned (.plain (OpenSpec.ofChange parseNamesSpec)) parseNamesCard

/-- THE TIED CARD OF 'vidimuslaw17.ParseLists'. -/
def parseListsCard : Claim7 := { stood := { row := parseListsRow, standIns := [], harness := (true, "890fae4095338e243913fac227808f3884bb7d0425187019eadb0545e2bf9cfc"), looks := true }, kinds := [], alts := [], laidByText := true, laidKinds := [.data, .data, .data, .data, .sentinel, .sentinel, .pinned, .pinned], laidTests := true, laidLooks := .later }
def ParseListsCardSaid : Prop := Claim7.holds Tryz.pinned (.plain (OpenSpec.ofChange parseListsSpec)) parseListsCard

/-- THE TIED CARD OF 'vidimuslaw19.PlanRuns'. -/
def planRunsCard : Claim7 := { stood := { row := planRunsRow, standIns := [], harness := (true, "890fae4095338e243913fac227808f3884bb7d0425187019eadb0545e2bf9cfc"), looks := true }, kinds := [], alts := [], laidByText := true, laidKinds := [.data, .data, .data, .data, .sentinel, .sentinel, .pinned, .pinned], laidTests := true, laidLooks := .later }
def PlanRunsCardSaid : Prop := Claim7.holds Tryz.pinned (.plain (OpenSpec.ofChange planRunsSpec)) planRunsCard

/-- THE TIED CARD OF 'vidimuslaw19.PlanOrder'. -/
def planOrderCard : Claim7 := { stood := { row := planOrderRow, standIns := [], harness := (true, "890fae4095338e243913fac227808f3884bb7d0425187019eadb0545e2bf9cfc"), looks := true }, kinds := [], alts := [], laidByText := true, laidKinds := [.data, .data, .data, .data, .sentinel, .sentinel, .pinned, .pinned], laidTests := true, laidLooks := .later }
def PlanOrderCardSaid : Prop := Claim7.holds Tryz.pinned (.plain (OpenSpec.ofChange planOrderSpec)) planOrderCard

/-- THE SECOND FORM's CARD OF 'vidimuslaw16.LexTells'. -/
def lexTellsUptoCard : Claim7 := { stood := { row := lexTellsUptoRow, standIns := [], harness := (true, "890fae4095338e243913fac227808f3884bb7d0425187019eadb0545e2bf9cfc"), looks := true }, kinds := [], alts := [], laidByText := true, laidKinds := [.data, .data, .data, .data, .sentinel, .sentinel, .pinned, .pinned], laidTests := true, laidLooks := .later }
def LexTellsUptoCardSaid : Prop := Claim7.holds Tryz.pinned (.plain (OpenSpec.upto lexTellsSpec)) lexTellsUptoCard

/-- THE SECOND FORM's CARD OF 'vidimuslaw16.LexTexts'. -/
def lexTextsUptoCard : Claim7 := { stood := { row := lexTextsUptoRow, standIns := [], harness := (true, "890fae4095338e243913fac227808f3884bb7d0425187019eadb0545e2bf9cfc"), looks := true }, kinds := [], alts := [], laidByText := true, laidKinds := [.data, .data, .data, .data, .sentinel, .sentinel, .pinned, .pinned], laidTests := true, laidLooks := .later }
def LexTextsUptoCardSaid : Prop := Claim7.holds Tryz.pinned (.plain (OpenSpec.upto lexTextsSpec)) lexTextsUptoCard

/-- THE SECOND FORM's CARD OF 'vidimuslaw16.LexBlanks'. -/
def lexBlanksUptoCard : Claim7 := { stood := { row := lexBlanksUptoRow, standIns := [], harness := (true, "890fae4095338e243913fac227808f3884bb7d0425187019eadb0545e2bf9cfc"), looks := true }, kinds := [], alts := [], laidByText := true, laidKinds := [.data, .data, .data, .data, .sentinel, .sentinel, .pinned, .pinned], laidTests := true, laidLooks := .later }
def LexBlanksUptoCardSaid : Prop := Claim7.holds Tryz.pinned (.plain (OpenSpec.upto lexBlanksSpec)) lexBlanksUptoCard

/-- THE SECOND FORM's CARD OF 'vidimuslaw19.PlanThree'. -/
def planThreeUptoCard : Claim7 := { stood := { row := planThreeUptoRow, standIns := [], harness := (true, "890fae4095338e243913fac227808f3884bb7d0425187019eadb0545e2bf9cfc"), looks := true }, kinds := [], alts := [], laidByText := true, laidKinds := [.data, .data, .data, .data, .sentinel, .sentinel, .pinned, .pinned], laidTests := true, laidLooks := .later }
def PlanThreeUptoCardSaid : Prop := Claim7.holds Tryz.pinned (.plain (OpenSpec.upto planThreeSpec)) planThreeUptoCard

/-- THE SECOND FORM's CARD OF 'vidimuslaw19.PlanCells'. -/
def planCellsUptoCard : Claim7 := { stood := { row := planCellsUptoRow, standIns := [], harness := (true, "890fae4095338e243913fac227808f3884bb7d0425187019eadb0545e2bf9cfc"), looks := true }, kinds := [], alts := [], laidByText := true, laidKinds := [.data, .data, .data, .data, .sentinel, .sentinel, .pinned, .pinned], laidTests := true, laidLooks := .later }
def PlanCellsUptoCardSaid : Prop := Claim7.holds Tryz.pinned (.plain (OpenSpec.upto planCellsSpec)) planCellsUptoCard

/-- THE SECOND FORM's CARD OF 'vidimuslaw16.LexJoins'. -/
def lexJoinsUptoCard : Claim7 := { stood := { row := lexJoinsUptoRow, standIns := [], harness := (true, "890fae4095338e243913fac227808f3884bb7d0425187019eadb0545e2bf9cfc"), looks := true }, kinds := [], alts := [], laidByText := true, laidKinds := [.data, .data, .data, .data, .sentinel, .sentinel, .pinned, .pinned], laidTests := true, laidLooks := .later }
def LexJoinsUptoCardSaid : Prop := Claim7.holds Tryz.pinned (.plain (OpenSpec.upto lexJoinsSpec)) lexJoinsUptoCard

/-- THE SECOND FORM's CARD OF 'vidimuslaw17.ParseTexts'. -/
def parseTextsUptoCard : Claim7 := { stood := { row := parseTextsUptoRow, standIns := [], harness := (true, "890fae4095338e243913fac227808f3884bb7d0425187019eadb0545e2bf9cfc"), looks := true }, kinds := [], alts := [], laidByText := true, laidKinds := [.data, .data, .data, .data, .sentinel, .sentinel, .pinned, .pinned], laidTests := true, laidLooks := .later }
def ParseTextsUptoCardSaid : Prop := Claim7.holds Tryz.pinned (.plain (OpenSpec.upto parseTextsSpec)) parseTextsUptoCard

/-- THE SECOND FORM's CARD OF 'vidimuslaw17.ParseBlanks'. -/
def parseBlanksUptoCard : Claim7 := { stood := { row := parseBlanksUptoRow, standIns := [], harness := (true, "890fae4095338e243913fac227808f3884bb7d0425187019eadb0545e2bf9cfc"), looks := true }, kinds := [], alts := [], laidByText := true, laidKinds := [.data, .data, .data, .data, .sentinel, .sentinel, .pinned, .pinned], laidTests := true, laidLooks := .later }
def ParseBlanksUptoCardSaid : Prop := Claim7.holds Tryz.pinned (.plain (OpenSpec.upto parseBlanksSpec)) parseBlanksUptoCard

/-- THE SECOND FORM's CARD OF 'vidimuslaw17.ParseNames'. -/
def parseNamesUptoCard : Claim7 := { stood := { row := parseNamesUptoRow, standIns := [], harness := (true, "890fae4095338e243913fac227808f3884bb7d0425187019eadb0545e2bf9cfc"), looks := true }, kinds := [], alts := [], laidByText := true, laidKinds := [.data, .data, .data, .data, .sentinel, .sentinel, .pinned, .pinned], laidTests := true, laidLooks := .later }
def ParseNamesUptoCardSaid : Prop := Claim7.holds Tryz.pinned (.plain (OpenSpec.upto parseNamesSpec)) parseNamesUptoCard

/-- THE SECOND FORM's CARD OF 'vidimuslaw17.ParseLists'. -/
def parseListsUptoCard : Claim7 := { stood := { row := parseListsUptoRow, standIns := [], harness := (true, "890fae4095338e243913fac227808f3884bb7d0425187019eadb0545e2bf9cfc"), looks := true }, kinds := [], alts := [], laidByText := true, laidKinds := [.data, .data, .data, .data, .sentinel, .sentinel, .pinned, .pinned], laidTests := true, laidLooks := .later }
def ParseListsUptoCardSaid : Prop := Claim7.holds Tryz.pinned (.plain (OpenSpec.upto parseListsSpec)) parseListsUptoCard

/-- THE SECOND FORM's CARD OF 'vidimuslaw19.PlanRuns'. -/
def planRunsUptoCard : Claim7 := { stood := { row := planRunsUptoRow, standIns := [], harness := (true, "890fae4095338e243913fac227808f3884bb7d0425187019eadb0545e2bf9cfc"), looks := true }, kinds := [], alts := [], laidByText := true, laidKinds := [.data, .data, .data, .data, .sentinel, .sentinel, .pinned, .pinned], laidTests := true, laidLooks := .later }
def PlanRunsUptoCardSaid : Prop := Claim7.holds Tryz.pinned (.plain (OpenSpec.upto planRunsSpec)) planRunsUptoCard

/-- THE SECOND FORM's CARD OF 'vidimuslaw19.PlanOrder'. -/
def planOrderUptoCard : Claim7 := { stood := { row := planOrderUptoRow, standIns := [], harness := (true, "890fae4095338e243913fac227808f3884bb7d0425187019eadb0545e2bf9cfc"), looks := true }, kinds := [], alts := [], laidByText := true, laidKinds := [.data, .data, .data, .data, .sentinel, .sentinel, .pinned, .pinned], laidTests := true, laidLooks := .later }
def PlanOrderUptoCardSaid : Prop := Claim7.holds Tryz.pinned (.plain (OpenSpec.upto planOrderSpec)) planOrderUptoCard
end Rows
end Go.Proofs.YtcgdncpioafbdaaGreatDoor
