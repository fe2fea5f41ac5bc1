/-
  DERIVED. GIVEN WITH THE SEED: THE CARDS: each row of YtjpchjbbfbmjgaaDoorRows.lean that lists a variable, with what it lists TIED to the program's text (the seventh form; the later family's looks); each row that meets fmt, with fmt's text TOLD by the authors' own Lean function (tested against real Go, not proved from fmt's source: count such statements apart). THE CARD IS WHAT COUNTS. Prove the row's statement (the work); the ties are given (YtjpchjbbfbmjgaaDoorTie.lean); close each card by the builder's one call (the guide's Derived/Test/ToyasCard.lean, 'card_holds'). Laid BY PROGRAM, IN A SANDBOX (cutbox-door.mjs). By AI agents, Wed Nov 11 2026. No macro, syntax, notation, axiom, sorry.
-/
import Derived.Test.YtjpchjbbfbmjgaaDoorRows
import GoSem.ClaimSeven
namespace Go.Proofs.YtjpchjbbfbmjgaaDoor
namespace Rows

/-- THE TIED CARD OF 'subwaylaw01.NumTells'. -/
def numTellsCard : Claim7 := { stood := { row := numTellsRow, standIns := [], harness := (true, "2839707a1d7dcb97d720c2006297bfeb9ca80c12f4ab9fcb044822dbf0b3380b"), looks := false }, kinds := [], alts := [], laidByText := true, laidKinds := [.data, .data, .data], laidTests := true, laidLooks := .later }
def NumTellsCardSaid : Prop := Claim7.holds Tryd.pinned (.plain (OpenSpec.ofChange numTellsSpec)) numTellsCard

/-- THE TIED CARD OF 'subwaylaw01.NumBack'. -/
def numBackCard : Claim7 := { stood := { row := numBackRow, standIns := [], harness := (true, "2839707a1d7dcb97d720c2006297bfeb9ca80c12f4ab9fcb044822dbf0b3380b"), looks := false }, kinds := [], alts := [], laidByText := true, laidKinds := [.data, .data, .data], laidTests := true, laidLooks := .later }
def NumBackCardSaid : Prop := Claim7.holds Tryd.pinned (.plain (OpenSpec.ofChange numBackSpec)) numBackCard

/-- THE TIED CARD OF 'subwaylaw01.NumTexts'. -/
def numTextsCard : Claim7 := { stood := { row := numTextsRow, standIns := [], harness := (true, "2839707a1d7dcb97d720c2006297bfeb9ca80c12f4ab9fcb044822dbf0b3380b"), looks := false }, kinds := [], alts := [], laidByText := true, laidKinds := [.data, .data, .data], laidTests := true, laidLooks := .later }
def NumTextsCardSaid : Prop := Claim7.holds Tryd.pinned (.plain (OpenSpec.ofChange numTextsSpec)) numTextsCard

/-- THE TIED CARD OF 'subwaylaw01.NumGreater'. -/
def numGreaterCard : Claim7 := { stood := { row := numGreaterRow, standIns := [], harness := (true, "2839707a1d7dcb97d720c2006297bfeb9ca80c12f4ab9fcb044822dbf0b3380b"), looks := false }, kinds := [], alts := [], laidByText := true, laidKinds := [.data, .data, .data], laidTests := true, laidLooks := .later }
def NumGreaterCardSaid : Prop := Claim7.holds Tryd.pinned (.plain (OpenSpec.ofChange numGreaterSpec)) numGreaterCard

/-- THE TIED CARD OF 'subwaylaw01.NumJoin'. -/
def numJoinCard : Claim7 := { stood := { row := numJoinRow, standIns := [], harness := (true, "2839707a1d7dcb97d720c2006297bfeb9ca80c12f4ab9fcb044822dbf0b3380b"), looks := false }, kinds := [], alts := [], laidByText := true, laidKinds := [.data, .data, .data], laidTests := true, laidLooks := .later }
def NumJoinCardSaid : Prop := Claim7.holds Tryd.pinned (.plain (OpenSpec.ofChange numJoinSpec)) numJoinCard

/-- THE TIED CARD OF 'subwaylaw01.NumDigits'. -/
def numDigitsCard : Claim7 := { stood := { row := numDigitsRow, standIns := [], harness := (true, "2839707a1d7dcb97d720c2006297bfeb9ca80c12f4ab9fcb044822dbf0b3380b"), looks := false }, kinds := [], alts := [], laidByText := true, laidKinds := [.data, .data, .data], laidTests := true, laidLooks := .later }
def NumDigitsCardSaid : Prop := Claim7.holds Tryd.pinned (.plain (OpenSpec.ofChange numDigitsSpec)) numDigitsCard

/-- THE SECOND FORM's CARD OF 'subwaylaw01.NumTells'. -/
def numTellsUptoCard : Claim7 := { stood := { row := numTellsUptoRow, standIns := [], harness := (true, "2839707a1d7dcb97d720c2006297bfeb9ca80c12f4ab9fcb044822dbf0b3380b"), looks := false }, kinds := [], alts := [], laidByText := true, laidKinds := [.data, .data, .data], laidTests := true, laidLooks := .later }
def NumTellsUptoCardSaid : Prop := Claim7.holds Tryd.pinned (.plain (OpenSpec.upto numTellsSpec)) numTellsUptoCard

/-- THE SECOND FORM's CARD OF 'subwaylaw01.NumBack'. -/
def numBackUptoCard : Claim7 := { stood := { row := numBackUptoRow, standIns := [], harness := (true, "2839707a1d7dcb97d720c2006297bfeb9ca80c12f4ab9fcb044822dbf0b3380b"), looks := false }, kinds := [], alts := [], laidByText := true, laidKinds := [.data, .data, .data], laidTests := true, laidLooks := .later }
def NumBackUptoCardSaid : Prop := Claim7.holds Tryd.pinned (.plain (OpenSpec.upto numBackSpec)) numBackUptoCard

/-- THE SECOND FORM's CARD OF 'subwaylaw01.NumTexts'. -/
def numTextsUptoCard : Claim7 := { stood := { row := numTextsUptoRow, standIns := [], harness := (true, "2839707a1d7dcb97d720c2006297bfeb9ca80c12f4ab9fcb044822dbf0b3380b"), looks := false }, kinds := [], alts := [], laidByText := true, laidKinds := [.data, .data, .data], laidTests := true, laidLooks := .later }
def NumTextsUptoCardSaid : Prop := Claim7.holds Tryd.pinned (.plain (OpenSpec.upto numTextsSpec)) numTextsUptoCard

/-- THE SECOND FORM's CARD OF 'subwaylaw01.NumGreater'. -/
def numGreaterUptoCard : Claim7 := { stood := { row := numGreaterUptoRow, standIns := [], harness := (true, "2839707a1d7dcb97d720c2006297bfeb9ca80c12f4ab9fcb044822dbf0b3380b"), looks := false }, kinds := [], alts := [], laidByText := true, laidKinds := [.data, .data, .data], laidTests := true, laidLooks := .later }
def NumGreaterUptoCardSaid : Prop := Claim7.holds Tryd.pinned (.plain (OpenSpec.upto numGreaterSpec)) numGreaterUptoCard

/-- THE SECOND FORM's CARD OF 'subwaylaw01.NumJoin'. -/
def numJoinUptoCard : Claim7 := { stood := { row := numJoinUptoRow, standIns := [], harness := (true, "2839707a1d7dcb97d720c2006297bfeb9ca80c12f4ab9fcb044822dbf0b3380b"), looks := false }, kinds := [], alts := [], laidByText := true, laidKinds := [.data, .data, .data], laidTests := true, laidLooks := .later }
def NumJoinUptoCardSaid : Prop := Claim7.holds Tryd.pinned (.plain (OpenSpec.upto numJoinSpec)) numJoinUptoCard

/-- THE SECOND FORM's CARD OF 'subwaylaw01.NumDigits'. -/
def numDigitsUptoCard : Claim7 := { stood := { row := numDigitsUptoRow, standIns := [], harness := (true, "2839707a1d7dcb97d720c2006297bfeb9ca80c12f4ab9fcb044822dbf0b3380b"), looks := false }, kinds := [], alts := [], laidByText := true, laidKinds := [.data, .data, .data], laidTests := true, laidLooks := .later }
def NumDigitsUptoCardSaid : Prop := Claim7.holds Tryd.pinned (.plain (OpenSpec.upto numDigitsSpec)) numDigitsUptoCard
end Rows
end Go.Proofs.YtjpchjbbfbmjgaaDoor
