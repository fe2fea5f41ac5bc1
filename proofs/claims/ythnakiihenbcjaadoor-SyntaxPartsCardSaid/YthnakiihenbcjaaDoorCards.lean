/-
  DERIVED. GIVEN WITH THE SEED: THE CARDS: each row of YthnakiihenbcjaaDoorRows.lean that lists a variable, with what it lists TIED to the program's text (the seventh form; the later family's looks); each row that meets fmt, with fmt's text TOLD by the authors' own Lean function (tested against real Go, not proved from fmt's source: count such statements apart). THE CARD IS WHAT COUNTS. Prove the row's statement (the work); the ties are given (YthnakiihenbcjaaDoorTie.lean); close each card by the builder's one call (the guide's Derived/Test/ToyasCard.lean, 'card_holds'). Laid BY PROGRAM, IN A SANDBOX (cutbox-door.mjs). By AI agents, Wed Nov 11 2026. No macro, syntax, notation, axiom, sorry.
-/
import Derived.Test.YthnakiihenbcjaaDoorRows
import GoSem.ClaimSeven
namespace Go.Proofs.YthnakiihenbcjaaDoor
namespace Rows

/-- THE TIED CARD OF 'subwaylaw04.SyntaxTells'. -/
def syntaxTellsCard : Claim7 := { stood := { row := syntaxTellsRow, standIns := [], harness := (true, "66242e85e585e56040397491bf662a0d783a5823ebced710f00ef61e5617cc27"), looks := false }, kinds := [], alts := [], laidByText := true, laidKinds := [.data, .data, .data, .data, .pinned], laidTests := true, laidLooks := .later }
def SyntaxTellsCardSaid : Prop := Claim7.holds Tryd.pinned (.plain (OpenSpec.ofChange syntaxTellsSpec)) syntaxTellsCard

/-- THE TIED CARD OF 'subwaylaw04.SyntaxBack'. -/
def syntaxBackCard : Claim7 := { stood := { row := syntaxBackRow, standIns := [], harness := (true, "66242e85e585e56040397491bf662a0d783a5823ebced710f00ef61e5617cc27"), looks := false }, kinds := [], alts := [], laidByText := true, laidKinds := [.data, .data, .data, .data, .pinned], laidTests := true, laidLooks := .later }
def SyntaxBackCardSaid : Prop := Claim7.holds Tryd.pinned (.plain (OpenSpec.ofChange syntaxBackSpec)) syntaxBackCard

/-- THE TIED CARD OF 'subwaylaw04.SyntaxNets'. -/
def syntaxNetsCard : Claim7 := { stood := { row := syntaxNetsRow, standIns := [], harness := (true, "66242e85e585e56040397491bf662a0d783a5823ebced710f00ef61e5617cc27"), looks := false }, kinds := [], alts := [], laidByText := true, laidKinds := [.data, .data, .data, .data, .pinned], laidTests := true, laidLooks := .later }
def SyntaxNetsCardSaid : Prop := Claim7.holds Tryd.pinned (.plain (OpenSpec.ofChange syntaxNetsSpec)) syntaxNetsCard

/-- THE TIED CARD OF 'subwaylaw04.SyntaxIn'. -/
def syntaxInCard : Claim7 := { stood := { row := syntaxInRow, standIns := [], harness := (true, "66242e85e585e56040397491bf662a0d783a5823ebced710f00ef61e5617cc27"), looks := false }, kinds := [], alts := [], laidByText := true, laidKinds := [.data, .data, .data, .data, .pinned], laidTests := true, laidLooks := .later }
def SyntaxInCardSaid : Prop := Claim7.holds Tryd.pinned (.plain (OpenSpec.ofChange syntaxInSpec)) syntaxInCard

/-- THE TIED CARD OF 'subwaylaw04.SyntaxNames'. -/
def syntaxNamesCard : Claim7 := { stood := { row := syntaxNamesRow, standIns := [], harness := (true, "66242e85e585e56040397491bf662a0d783a5823ebced710f00ef61e5617cc27"), looks := false }, kinds := [], alts := [], laidByText := true, laidKinds := [.data, .data, .data, .data, .pinned], laidTests := true, laidLooks := .later }
def SyntaxNamesCardSaid : Prop := Claim7.holds Tryd.pinned (.plain (OpenSpec.ofChange syntaxNamesSpec)) syntaxNamesCard

/-- THE TIED CARD OF 'subwaylaw04.SyntaxHalves'. -/
def syntaxHalvesCard : Claim7 := { stood := { row := syntaxHalvesRow, standIns := [], harness := (true, "66242e85e585e56040397491bf662a0d783a5823ebced710f00ef61e5617cc27"), looks := false }, kinds := [], alts := [], laidByText := true, laidKinds := [.data, .data, .data, .data, .pinned], laidTests := true, laidLooks := .later }
def SyntaxHalvesCardSaid : Prop := Claim7.holds Tryd.pinned (.plain (OpenSpec.ofChange syntaxHalvesSpec)) syntaxHalvesCard

/-- THE TIED CARD OF 'subwaylaw04.SyntaxParts'. -/
def syntaxPartsCard : Claim7 := { stood := { row := syntaxPartsRow, standIns := [], harness := (true, "66242e85e585e56040397491bf662a0d783a5823ebced710f00ef61e5617cc27"), looks := false }, kinds := [], alts := [], laidByText := true, laidKinds := [.data, .data, .data, .data, .pinned], laidTests := true, laidLooks := .later }
def SyntaxPartsCardSaid : Prop := Claim7.holds Tryd.pinned (.plain (OpenSpec.ofChange syntaxPartsSpec)) syntaxPartsCard

/-- THE SECOND FORM's CARD OF 'subwaylaw04.SyntaxTells'. -/
def syntaxTellsUptoCard : Claim7 := { stood := { row := syntaxTellsUptoRow, standIns := [], harness := (true, "66242e85e585e56040397491bf662a0d783a5823ebced710f00ef61e5617cc27"), looks := false }, kinds := [], alts := [], laidByText := true, laidKinds := [.data, .data, .data, .data, .pinned], laidTests := true, laidLooks := .later }
def SyntaxTellsUptoCardSaid : Prop := Claim7.holds Tryd.pinned (.plain (OpenSpec.upto syntaxTellsSpec)) syntaxTellsUptoCard

/-- THE SECOND FORM's CARD OF 'subwaylaw04.SyntaxBack'. -/
def syntaxBackUptoCard : Claim7 := { stood := { row := syntaxBackUptoRow, standIns := [], harness := (true, "66242e85e585e56040397491bf662a0d783a5823ebced710f00ef61e5617cc27"), looks := false }, kinds := [], alts := [], laidByText := true, laidKinds := [.data, .data, .data, .data, .pinned], laidTests := true, laidLooks := .later }
def SyntaxBackUptoCardSaid : Prop := Claim7.holds Tryd.pinned (.plain (OpenSpec.upto syntaxBackSpec)) syntaxBackUptoCard

/-- THE SECOND FORM's CARD OF 'subwaylaw04.SyntaxNets'. -/
def syntaxNetsUptoCard : Claim7 := { stood := { row := syntaxNetsUptoRow, standIns := [], harness := (true, "66242e85e585e56040397491bf662a0d783a5823ebced710f00ef61e5617cc27"), looks := false }, kinds := [], alts := [], laidByText := true, laidKinds := [.data, .data, .data, .data, .pinned], laidTests := true, laidLooks := .later }
def SyntaxNetsUptoCardSaid : Prop := Claim7.holds Tryd.pinned (.plain (OpenSpec.upto syntaxNetsSpec)) syntaxNetsUptoCard

/-- THE SECOND FORM's CARD OF 'subwaylaw04.SyntaxIn'. -/
def syntaxInUptoCard : Claim7 := { stood := { row := syntaxInUptoRow, standIns := [], harness := (true, "66242e85e585e56040397491bf662a0d783a5823ebced710f00ef61e5617cc27"), looks := false }, kinds := [], alts := [], laidByText := true, laidKinds := [.data, .data, .data, .data, .pinned], laidTests := true, laidLooks := .later }
def SyntaxInUptoCardSaid : Prop := Claim7.holds Tryd.pinned (.plain (OpenSpec.upto syntaxInSpec)) syntaxInUptoCard

/-- THE SECOND FORM's CARD OF 'subwaylaw04.SyntaxNames'. -/
def syntaxNamesUptoCard : Claim7 := { stood := { row := syntaxNamesUptoRow, standIns := [], harness := (true, "66242e85e585e56040397491bf662a0d783a5823ebced710f00ef61e5617cc27"), looks := false }, kinds := [], alts := [], laidByText := true, laidKinds := [.data, .data, .data, .data, .pinned], laidTests := true, laidLooks := .later }
def SyntaxNamesUptoCardSaid : Prop := Claim7.holds Tryd.pinned (.plain (OpenSpec.upto syntaxNamesSpec)) syntaxNamesUptoCard

/-- THE SECOND FORM's CARD OF 'subwaylaw04.SyntaxHalves'. -/
def syntaxHalvesUptoCard : Claim7 := { stood := { row := syntaxHalvesUptoRow, standIns := [], harness := (true, "66242e85e585e56040397491bf662a0d783a5823ebced710f00ef61e5617cc27"), looks := false }, kinds := [], alts := [], laidByText := true, laidKinds := [.data, .data, .data, .data, .pinned], laidTests := true, laidLooks := .later }
def SyntaxHalvesUptoCardSaid : Prop := Claim7.holds Tryd.pinned (.plain (OpenSpec.upto syntaxHalvesSpec)) syntaxHalvesUptoCard

/-- THE SECOND FORM's CARD OF 'subwaylaw04.SyntaxParts'. -/
def syntaxPartsUptoCard : Claim7 := { stood := { row := syntaxPartsUptoRow, standIns := [], harness := (true, "66242e85e585e56040397491bf662a0d783a5823ebced710f00ef61e5617cc27"), looks := false }, kinds := [], alts := [], laidByText := true, laidKinds := [.data, .data, .data, .data, .pinned], laidTests := true, laidLooks := .later }
def SyntaxPartsUptoCardSaid : Prop := Claim7.holds Tryd.pinned (.plain (OpenSpec.upto syntaxPartsSpec)) syntaxPartsUptoCard
end Rows
end Go.Proofs.YthnakiihenbcjaaDoor
