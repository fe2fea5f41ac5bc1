/-
  DERIVED. GIVEN WITH THE SEED: THE CARDS: each row of YtoflbpmbkmephaaGreatDoorRows.lean that lists a variable, with what it lists TIED to the program's text (the seventh form; the later family's looks); each row that meets fmt, with fmt's text TOLD by the authors' own Lean function (tested against real Go, not proved from fmt's source: count such statements apart). THE CARD IS WHAT COUNTS. Prove the row's statement (the work); the ties are given (YtoflbpmbkmephaaGreatDoorTie.lean); close each card by the builder's one call (the guide's Derived/Test/ToyasCard.lean, 'card_holds'). Laid BY PROGRAM, IN A SANDBOX (cutbox-door.mjs). By AI agents, Wed Nov 11 2026. No macro, syntax, notation, axiom, sorry.
-/
import Derived.Test.YtoflbpmbkmephaaGreatDoorRows
import GoSem.ClaimSeven
namespace Go.Proofs.YtoflbpmbkmephaaGreatDoor
namespace Rows

/-- THE TIED CARD OF 'subwaylaw09.ConfigTells'. -/
def configTellsCard : Claim7 := { stood := { row := configTellsRow, standIns := [], harness := (true, "91538ad6bb6359add456fe171df553ad60b6a395a8dd455de1c24986f6c79dca"), looks := false }, kinds := [], alts := [], laidByText := true, laidKinds := [.data, .data, .data, .data, .pinned], laidTests := true, laidLooks := .later }
def ConfigTellsCardSaid : Prop := Claim7.holds Tryz.pinned (.plain (OpenSpec.ofChange configTellsSpec)) configTellsCard

/-- THE TIED CARD OF 'subwaylaw09.ConfigBack'. -/
def configBackCard : Claim7 := { stood := { row := configBackRow, standIns := [], harness := (true, "91538ad6bb6359add456fe171df553ad60b6a395a8dd455de1c24986f6c79dca"), looks := false }, kinds := [], alts := [], laidByText := true, laidKinds := [.data, .data, .data, .data, .pinned], laidTests := true, laidLooks := .later }
def ConfigBackCardSaid : Prop := Claim7.holds Tryz.pinned (.plain (OpenSpec.ofChange configBackSpec)) configBackCard

/-- THE TIED CARD OF 'subwaylaw09.ConfigLines'. -/
def configLinesCard : Claim7 := { stood := { row := configLinesRow, standIns := [], harness := (true, "91538ad6bb6359add456fe171df553ad60b6a395a8dd455de1c24986f6c79dca"), looks := false }, kinds := [], alts := [], laidByText := true, laidKinds := [.data, .data, .data, .data, .pinned], laidTests := true, laidLooks := .later }
def ConfigLinesCardSaid : Prop := Claim7.holds Tryz.pinned (.plain (OpenSpec.ofChange configLinesSpec)) configLinesCard

/-- THE TIED CARD OF 'subwaylaw09.ConfigChanged'. -/
def configChangedCard : Claim7 := { stood := { row := configChangedRow, standIns := [], harness := (true, "91538ad6bb6359add456fe171df553ad60b6a395a8dd455de1c24986f6c79dca"), looks := false }, kinds := [], alts := [], laidByText := true, laidKinds := [.data, .data, .data, .data, .pinned], laidTests := true, laidLooks := .later }
def ConfigChangedCardSaid : Prop := Claim7.holds Tryz.pinned (.plain (OpenSpec.ofChange configChangedSpec)) configChangedCard

/-- THE TIED CARD OF 'subwaylaw09.ConfigFinds'. -/
def configFindsCard : Claim7 := { stood := { row := configFindsRow, standIns := [], harness := (true, "91538ad6bb6359add456fe171df553ad60b6a395a8dd455de1c24986f6c79dca"), looks := false }, kinds := [], alts := [], laidByText := true, laidKinds := [.data, .data, .data, .data, .pinned], laidTests := true, laidLooks := .later }
def ConfigFindsCardSaid : Prop := Claim7.holds Tryz.pinned (.plain (OpenSpec.ofChange configFindsSpec)) configFindsCard

/-- THE TIED CARD OF 'subwaylaw09.ConfigGrows'. -/
def configGrowsCard : Claim7 := { stood := { row := configGrowsRow, standIns := [], harness := (true, "91538ad6bb6359add456fe171df553ad60b6a395a8dd455de1c24986f6c79dca"), looks := false }, kinds := [], alts := [], laidByText := true, laidKinds := [.data, .data, .data, .data, .pinned], laidTests := true, laidLooks := .later }
def ConfigGrowsCardSaid : Prop := Claim7.holds Tryz.pinned (.plain (OpenSpec.ofChange configGrowsSpec)) configGrowsCard

/-- THE TIED CARD OF 'subwaylaw24.ScriptTells'. -/
def scriptTellsCard : Claim7 := { stood := { row := scriptTellsRow, standIns := [], harness := (true, "91538ad6bb6359add456fe171df553ad60b6a395a8dd455de1c24986f6c79dca"), looks := false }, kinds := [], alts := [], laidByText := true, laidKinds := [.data, .data, .data, .data, .pinned], laidTests := true, laidLooks := .later }
def ScriptTellsCardSaid : Prop := Claim7.holds Tryz.pinned (.plain (OpenSpec.ofChange scriptTellsSpec)) scriptTellsCard

/-- THE TIED CARD OF 'subwaylaw24.ScriptBack'. -/
def scriptBackCard : Claim7 := { stood := { row := scriptBackRow, standIns := [], harness := (true, "91538ad6bb6359add456fe171df553ad60b6a395a8dd455de1c24986f6c79dca"), looks := false }, kinds := [], alts := [], laidByText := true, laidKinds := [.data, .data, .data, .data, .pinned], laidTests := true, laidLooks := .later }
def ScriptBackCardSaid : Prop := Claim7.holds Tryz.pinned (.plain (OpenSpec.ofChange scriptBackSpec)) scriptBackCard

/-- THE TIED CARD OF 'subwaylaw24.ScriptTold'. -/
def scriptToldCard : Claim7 := { stood := { row := scriptToldRow, standIns := [], harness := (true, "91538ad6bb6359add456fe171df553ad60b6a395a8dd455de1c24986f6c79dca"), looks := false }, kinds := [], alts := [], laidByText := true, laidKinds := [.data, .data, .data, .data, .pinned], laidTests := true, laidLooks := .later }
def ScriptToldCardSaid : Prop := Claim7.holds Tryz.pinned (.plain (OpenSpec.ofChange scriptToldSpec)) scriptToldCard

/-- THE TIED CARD OF 'subwaylaw24.ScriptWords'. -/
def scriptWordsCard : Claim7 := { stood := { row := scriptWordsRow, standIns := [], harness := (true, "91538ad6bb6359add456fe171df553ad60b6a395a8dd455de1c24986f6c79dca"), looks := false }, kinds := [], alts := [], laidByText := true, laidKinds := [.data, .data, .data, .data, .pinned], laidTests := true, laidLooks := .later }
def ScriptWordsCardSaid : Prop := Claim7.holds Tryz.pinned (.plain (OpenSpec.ofChange scriptWordsSpec)) scriptWordsCard

/-- THE TIED CARD OF 'subwaylaw24.ScriptDrawn'. -/
def scriptDrawnCard : Claim7 := { stood := { row := scriptDrawnRow, standIns := [], harness := (true, "91538ad6bb6359add456fe171df553ad60b6a395a8dd455de1c24986f6c79dca"), looks := false }, kinds := [], alts := [], laidByText := true, laidKinds := [.data, .data, .data, .data, .pinned], laidTests := true, laidLooks := .later }
def ScriptDrawnCardSaid : Prop := Claim7.holds Tryz.pinned (.plain (OpenSpec.ofChange scriptDrawnSpec)) scriptDrawnCard

/-- THE SECOND FORM's CARD OF 'subwaylaw09.ConfigTells'. -/
def configTellsUptoCard : Claim7 := { stood := { row := configTellsUptoRow, standIns := [], harness := (true, "91538ad6bb6359add456fe171df553ad60b6a395a8dd455de1c24986f6c79dca"), looks := false }, kinds := [], alts := [], laidByText := true, laidKinds := [.data, .data, .data, .data, .pinned], laidTests := true, laidLooks := .later }
def ConfigTellsUptoCardSaid : Prop := Claim7.holds Tryz.pinned (.plain (OpenSpec.upto configTellsSpec)) configTellsUptoCard

/-- THE SECOND FORM's CARD OF 'subwaylaw09.ConfigBack'. -/
def configBackUptoCard : Claim7 := { stood := { row := configBackUptoRow, standIns := [], harness := (true, "91538ad6bb6359add456fe171df553ad60b6a395a8dd455de1c24986f6c79dca"), looks := false }, kinds := [], alts := [], laidByText := true, laidKinds := [.data, .data, .data, .data, .pinned], laidTests := true, laidLooks := .later }
def ConfigBackUptoCardSaid : Prop := Claim7.holds Tryz.pinned (.plain (OpenSpec.upto configBackSpec)) configBackUptoCard

/-- THE SECOND FORM's CARD OF 'subwaylaw09.ConfigLines'. -/
def configLinesUptoCard : Claim7 := { stood := { row := configLinesUptoRow, standIns := [], harness := (true, "91538ad6bb6359add456fe171df553ad60b6a395a8dd455de1c24986f6c79dca"), looks := false }, kinds := [], alts := [], laidByText := true, laidKinds := [.data, .data, .data, .data, .pinned], laidTests := true, laidLooks := .later }
def ConfigLinesUptoCardSaid : Prop := Claim7.holds Tryz.pinned (.plain (OpenSpec.upto configLinesSpec)) configLinesUptoCard

/-- THE SECOND FORM's CARD OF 'subwaylaw09.ConfigChanged'. -/
def configChangedUptoCard : Claim7 := { stood := { row := configChangedUptoRow, standIns := [], harness := (true, "91538ad6bb6359add456fe171df553ad60b6a395a8dd455de1c24986f6c79dca"), looks := false }, kinds := [], alts := [], laidByText := true, laidKinds := [.data, .data, .data, .data, .pinned], laidTests := true, laidLooks := .later }
def ConfigChangedUptoCardSaid : Prop := Claim7.holds Tryz.pinned (.plain (OpenSpec.upto configChangedSpec)) configChangedUptoCard

/-- THE SECOND FORM's CARD OF 'subwaylaw09.ConfigFinds'. -/
def configFindsUptoCard : Claim7 := { stood := { row := configFindsUptoRow, standIns := [], harness := (true, "91538ad6bb6359add456fe171df553ad60b6a395a8dd455de1c24986f6c79dca"), looks := false }, kinds := [], alts := [], laidByText := true, laidKinds := [.data, .data, .data, .data, .pinned], laidTests := true, laidLooks := .later }
def ConfigFindsUptoCardSaid : Prop := Claim7.holds Tryz.pinned (.plain (OpenSpec.upto configFindsSpec)) configFindsUptoCard

/-- THE SECOND FORM's CARD OF 'subwaylaw09.ConfigGrows'. -/
def configGrowsUptoCard : Claim7 := { stood := { row := configGrowsUptoRow, standIns := [], harness := (true, "91538ad6bb6359add456fe171df553ad60b6a395a8dd455de1c24986f6c79dca"), looks := false }, kinds := [], alts := [], laidByText := true, laidKinds := [.data, .data, .data, .data, .pinned], laidTests := true, laidLooks := .later }
def ConfigGrowsUptoCardSaid : Prop := Claim7.holds Tryz.pinned (.plain (OpenSpec.upto configGrowsSpec)) configGrowsUptoCard

/-- THE SECOND FORM's CARD OF 'subwaylaw24.ScriptTells'. -/
def scriptTellsUptoCard : Claim7 := { stood := { row := scriptTellsUptoRow, standIns := [], harness := (true, "91538ad6bb6359add456fe171df553ad60b6a395a8dd455de1c24986f6c79dca"), looks := false }, kinds := [], alts := [], laidByText := true, laidKinds := [.data, .data, .data, .data, .pinned], laidTests := true, laidLooks := .later }
def ScriptTellsUptoCardSaid : Prop := Claim7.holds Tryz.pinned (.plain (OpenSpec.upto scriptTellsSpec)) scriptTellsUptoCard

/-- THE SECOND FORM's CARD OF 'subwaylaw24.ScriptBack'. -/
def scriptBackUptoCard : Claim7 := { stood := { row := scriptBackUptoRow, standIns := [], harness := (true, "91538ad6bb6359add456fe171df553ad60b6a395a8dd455de1c24986f6c79dca"), looks := false }, kinds := [], alts := [], laidByText := true, laidKinds := [.data, .data, .data, .data, .pinned], laidTests := true, laidLooks := .later }
def ScriptBackUptoCardSaid : Prop := Claim7.holds Tryz.pinned (.plain (OpenSpec.upto scriptBackSpec)) scriptBackUptoCard

/-- THE SECOND FORM's CARD OF 'subwaylaw24.ScriptTold'. -/
def scriptToldUptoCard : Claim7 := { stood := { row := scriptToldUptoRow, standIns := [], harness := (true, "91538ad6bb6359add456fe171df553ad60b6a395a8dd455de1c24986f6c79dca"), looks := false }, kinds := [], alts := [], laidByText := true, laidKinds := [.data, .data, .data, .data, .pinned], laidTests := true, laidLooks := .later }
def ScriptToldUptoCardSaid : Prop := Claim7.holds Tryz.pinned (.plain (OpenSpec.upto scriptToldSpec)) scriptToldUptoCard

/-- THE SECOND FORM's CARD OF 'subwaylaw24.ScriptWords'. -/
def scriptWordsUptoCard : Claim7 := { stood := { row := scriptWordsUptoRow, standIns := [], harness := (true, "91538ad6bb6359add456fe171df553ad60b6a395a8dd455de1c24986f6c79dca"), looks := false }, kinds := [], alts := [], laidByText := true, laidKinds := [.data, .data, .data, .data, .pinned], laidTests := true, laidLooks := .later }
def ScriptWordsUptoCardSaid : Prop := Claim7.holds Tryz.pinned (.plain (OpenSpec.upto scriptWordsSpec)) scriptWordsUptoCard

/-- THE SECOND FORM's CARD OF 'subwaylaw24.ScriptDrawn'. -/
def scriptDrawnUptoCard : Claim7 := { stood := { row := scriptDrawnUptoRow, standIns := [], harness := (true, "91538ad6bb6359add456fe171df553ad60b6a395a8dd455de1c24986f6c79dca"), looks := false }, kinds := [], alts := [], laidByText := true, laidKinds := [.data, .data, .data, .data, .pinned], laidTests := true, laidLooks := .later }
def ScriptDrawnUptoCardSaid : Prop := Claim7.holds Tryz.pinned (.plain (OpenSpec.upto scriptDrawnSpec)) scriptDrawnUptoCard
end Rows
end Go.Proofs.YtoflbpmbkmephaaGreatDoor
