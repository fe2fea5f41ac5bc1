/-
  DERIVED. GIVEN WITH THE SEED: THE CARDS: each row of YtjllaeceghmjgaaDoorRows.lean that lists a variable, with what it lists TIED to the program's text (the seventh form; the later family's looks); each row that meets fmt, with fmt's text TOLD by the authors' own Lean function (tested against real Go, not proved from fmt's source: count such statements apart). THE CARD IS WHAT COUNTS. Prove the row's statement (the work); the ties are given (YtjllaeceghmjgaaDoorTie.lean); close each card by the builder's one call (the guide's Derived/Test/ToyasCard.lean, 'card_holds'). Laid BY PROGRAM, IN A SANDBOX (cutbox-door.mjs). By AI agents, Wed Nov 11 2026. No macro, syntax, notation, axiom, sorry.
-/
import Derived.Test.YtjllaeceghmjgaaDoorRows
import GoSem.ClaimSeven
namespace Go.Proofs.YtjllaeceghmjgaaDoor
namespace Rows

/-- THE TIED CARD OF 'subwaylaw15.TicketPlays'. -/
def ticketPlaysCard : Claim7 := { stood := { row := ticketPlaysRow, standIns := [], harness := (true, "95e12f629fddac207c9bcb0b791d9d7e083a40ad72422ef2d08e4cd7c807bcaf"), looks := false }, kinds := [], alts := [], laidByText := true, laidKinds := [.data, .data, .data], laidTests := true, laidLooks := .later }
def TicketPlaysCardSaid : Prop := Claim7.holds Tryd.pinned (.plain (OpenSpec.ofChange ticketPlaysSpec)) ticketPlaysCard

/-- THE TIED CARD OF 'subwaylaw15.TicketOnce'. -/
def ticketOnceCard : Claim7 := { stood := { row := ticketOnceRow, standIns := [], harness := (true, "95e12f629fddac207c9bcb0b791d9d7e083a40ad72422ef2d08e4cd7c807bcaf"), looks := false }, kinds := [], alts := [], laidByText := true, laidKinds := [.data, .data, .data], laidTests := true, laidLooks := .later }
def TicketOnceCardSaid : Prop := Claim7.holds Tryd.pinned (.plain (OpenSpec.ofChange ticketOnceSpec)) ticketOnceCard

/-- THE TIED CARD OF 'subwaylaw15.TicketHeld'. -/
def ticketHeldCard : Claim7 := { stood := { row := ticketHeldRow, standIns := [], harness := (true, "95e12f629fddac207c9bcb0b791d9d7e083a40ad72422ef2d08e4cd7c807bcaf"), looks := false }, kinds := [], alts := [], laidByText := true, laidKinds := [.data, .data, .data], laidTests := true, laidLooks := .later }
def TicketHeldCardSaid : Prop := Claim7.holds Tryd.pinned (.plain (OpenSpec.ofChange ticketHeldSpec)) ticketHeldCard

/-- THE TIED CARD OF 'subwaylaw15.TicketSerial'. -/
def ticketSerialCard : Claim7 := { stood := { row := ticketSerialRow, standIns := [], harness := (true, "95e12f629fddac207c9bcb0b791d9d7e083a40ad72422ef2d08e4cd7c807bcaf"), looks := false }, kinds := [], alts := [], laidByText := true, laidKinds := [.data, .data, .data], laidTests := true, laidLooks := .later }
def TicketSerialCardSaid : Prop := Claim7.holds Tryd.pinned (.plain (OpenSpec.ofChange ticketSerialSpec)) ticketSerialCard

/-- THE TIED CARD OF 'subwaylaw15.TicketVoid'. -/
def ticketVoidCard : Claim7 := { stood := { row := ticketVoidRow, standIns := [], harness := (true, "95e12f629fddac207c9bcb0b791d9d7e083a40ad72422ef2d08e4cd7c807bcaf"), looks := false }, kinds := [], alts := [], laidByText := true, laidKinds := [.data, .data, .data], laidTests := true, laidLooks := .later }
def TicketVoidCardSaid : Prop := Claim7.holds Tryd.pinned (.plain (OpenSpec.ofChange ticketVoidSpec)) ticketVoidCard

/-- THE TIED CARD OF 'subwaylaw15.TicketFull'. -/
def ticketFullCard : Claim7 := { stood := { row := ticketFullRow, standIns := [], harness := (true, "95e12f629fddac207c9bcb0b791d9d7e083a40ad72422ef2d08e4cd7c807bcaf"), looks := false }, kinds := [], alts := [], laidByText := true, laidKinds := [.data, .data, .data], laidTests := true, laidLooks := .later }
def TicketFullCardSaid : Prop := Claim7.holds Tryd.pinned (.plain (OpenSpec.ofChange ticketFullSpec)) ticketFullCard

/-- THE SECOND FORM's CARD OF 'subwaylaw15.TicketPlays'. -/
def ticketPlaysUptoCard : Claim7 := { stood := { row := ticketPlaysUptoRow, standIns := [], harness := (true, "95e12f629fddac207c9bcb0b791d9d7e083a40ad72422ef2d08e4cd7c807bcaf"), looks := false }, kinds := [], alts := [], laidByText := true, laidKinds := [.data, .data, .data], laidTests := true, laidLooks := .later }
def TicketPlaysUptoCardSaid : Prop := Claim7.holds Tryd.pinned (.plain (OpenSpec.upto ticketPlaysSpec)) ticketPlaysUptoCard

/-- THE SECOND FORM's CARD OF 'subwaylaw15.TicketOnce'. -/
def ticketOnceUptoCard : Claim7 := { stood := { row := ticketOnceUptoRow, standIns := [], harness := (true, "95e12f629fddac207c9bcb0b791d9d7e083a40ad72422ef2d08e4cd7c807bcaf"), looks := false }, kinds := [], alts := [], laidByText := true, laidKinds := [.data, .data, .data], laidTests := true, laidLooks := .later }
def TicketOnceUptoCardSaid : Prop := Claim7.holds Tryd.pinned (.plain (OpenSpec.upto ticketOnceSpec)) ticketOnceUptoCard

/-- THE SECOND FORM's CARD OF 'subwaylaw15.TicketHeld'. -/
def ticketHeldUptoCard : Claim7 := { stood := { row := ticketHeldUptoRow, standIns := [], harness := (true, "95e12f629fddac207c9bcb0b791d9d7e083a40ad72422ef2d08e4cd7c807bcaf"), looks := false }, kinds := [], alts := [], laidByText := true, laidKinds := [.data, .data, .data], laidTests := true, laidLooks := .later }
def TicketHeldUptoCardSaid : Prop := Claim7.holds Tryd.pinned (.plain (OpenSpec.upto ticketHeldSpec)) ticketHeldUptoCard

/-- THE SECOND FORM's CARD OF 'subwaylaw15.TicketSerial'. -/
def ticketSerialUptoCard : Claim7 := { stood := { row := ticketSerialUptoRow, standIns := [], harness := (true, "95e12f629fddac207c9bcb0b791d9d7e083a40ad72422ef2d08e4cd7c807bcaf"), looks := false }, kinds := [], alts := [], laidByText := true, laidKinds := [.data, .data, .data], laidTests := true, laidLooks := .later }
def TicketSerialUptoCardSaid : Prop := Claim7.holds Tryd.pinned (.plain (OpenSpec.upto ticketSerialSpec)) ticketSerialUptoCard

/-- THE SECOND FORM's CARD OF 'subwaylaw15.TicketVoid'. -/
def ticketVoidUptoCard : Claim7 := { stood := { row := ticketVoidUptoRow, standIns := [], harness := (true, "95e12f629fddac207c9bcb0b791d9d7e083a40ad72422ef2d08e4cd7c807bcaf"), looks := false }, kinds := [], alts := [], laidByText := true, laidKinds := [.data, .data, .data], laidTests := true, laidLooks := .later }
def TicketVoidUptoCardSaid : Prop := Claim7.holds Tryd.pinned (.plain (OpenSpec.upto ticketVoidSpec)) ticketVoidUptoCard

/-- THE SECOND FORM's CARD OF 'subwaylaw15.TicketFull'. -/
def ticketFullUptoCard : Claim7 := { stood := { row := ticketFullUptoRow, standIns := [], harness := (true, "95e12f629fddac207c9bcb0b791d9d7e083a40ad72422ef2d08e4cd7c807bcaf"), looks := false }, kinds := [], alts := [], laidByText := true, laidKinds := [.data, .data, .data], laidTests := true, laidLooks := .later }
def TicketFullUptoCardSaid : Prop := Claim7.holds Tryd.pinned (.plain (OpenSpec.upto ticketFullSpec)) ticketFullUptoCard
end Rows
end Go.Proofs.YtjllaeceghmjgaaDoor
