/-
  DERIVED. GIVEN WITH THE SEED: THE CARDS: each row of YtfffjaijflbeaaaDoorRows.lean that lists a variable, with what it lists TIED to the program's text (the seventh form; the later family's looks); each row that meets fmt, with fmt's text TOLD by the authors' own Lean function (tested against real Go, not proved from fmt's source: count such statements apart). THE CARD IS WHAT COUNTS. Prove the row's statement (the work); the ties are given (YtfffjaijflbeaaaDoorTie.lean); close each card by the builder's one call (the guide's Derived/Test/ToyasCard.lean, 'card_holds'). Laid BY PROGRAM, IN A SANDBOX (cutbox-door.mjs). By AI agents, Wed Nov 11 2026. No macro, syntax, notation, axiom, sorry.
-/
import Derived.Test.YtfffjaijflbeaaaDoorRows
import GoSem.ClaimSeven
namespace Go.Proofs.YtfffjaijflbeaaaDoor
namespace Rows

/-- THE TIED CARD OF 'subwaylaw11.GatePlays'. -/
def gatePlaysCard : Claim7 := { stood := { row := gatePlaysRow, standIns := [], harness := (true, "1d6a4511c9377491c10140f85eb37ee2c6edf754afcbab5d82afc7c307cd8567"), looks := false }, kinds := [], alts := [], laidByText := true, laidKinds := [.data, .data, .data, .data, .pinned], laidTests := true, laidLooks := .later }
def GatePlaysCardSaid : Prop := Claim7.holds Tryd.pinned (.plain (OpenSpec.ofChange gatePlaysSpec)) gatePlaysCard

/-- THE TIED CARD OF 'subwaylaw11.GateCounts'. -/
def gateCountsCard : Claim7 := { stood := { row := gateCountsRow, standIns := [], harness := (true, "1d6a4511c9377491c10140f85eb37ee2c6edf754afcbab5d82afc7c307cd8567"), looks := false }, kinds := [], alts := [], laidByText := true, laidKinds := [.data, .data, .data, .data, .pinned], laidTests := true, laidLooks := .later }
def GateCountsCardSaid : Prop := Claim7.holds Tryd.pinned (.plain (OpenSpec.ofChange gateCountsSpec)) gateCountsCard

/-- THE TIED CARD OF 'subwaylaw11.GateApart'. -/
def gateApartCard : Claim7 := { stood := { row := gateApartRow, standIns := [], harness := (true, "1d6a4511c9377491c10140f85eb37ee2c6edf754afcbab5d82afc7c307cd8567"), looks := false }, kinds := [], alts := [], laidByText := true, laidKinds := [.data, .data, .data, .data, .pinned], laidTests := true, laidLooks := .later }
def GateApartCardSaid : Prop := Claim7.holds Tryd.pinned (.plain (OpenSpec.ofChange gateApartSpec)) gateApartCard

/-- THE TIED CARD OF 'subwaylaw11.GateNets'. -/
def gateNetsCard : Claim7 := { stood := { row := gateNetsRow, standIns := [], harness := (true, "1d6a4511c9377491c10140f85eb37ee2c6edf754afcbab5d82afc7c307cd8567"), looks := false }, kinds := [], alts := [], laidByText := true, laidKinds := [.data, .data, .data, .data, .pinned], laidTests := true, laidLooks := .later }
def GateNetsCardSaid : Prop := Claim7.holds Tryd.pinned (.plain (OpenSpec.ofChange gateNetsSpec)) gateNetsCard

/-- THE TIED CARD OF 'subwaylaw11.GateFill'. -/
def gateFillCard : Claim7 := { stood := { row := gateFillRow, standIns := [], harness := (true, "1d6a4511c9377491c10140f85eb37ee2c6edf754afcbab5d82afc7c307cd8567"), looks := false }, kinds := [], alts := [], laidByText := true, laidKinds := [.data, .data, .data, .data, .pinned], laidTests := true, laidLooks := .later }
def GateFillCardSaid : Prop := Claim7.holds Tryd.pinned (.plain (OpenSpec.ofChange gateFillSpec)) gateFillCard

/-- THE TIED CARD OF 'subwaylaw11.GateLook'. -/
def gateLookCard : Claim7 := { stood := { row := gateLookRow, standIns := [], harness := (true, "1d6a4511c9377491c10140f85eb37ee2c6edf754afcbab5d82afc7c307cd8567"), looks := false }, kinds := [], alts := [], laidByText := true, laidKinds := [.data, .data, .data, .data, .pinned], laidTests := true, laidLooks := .later }
def GateLookCardSaid : Prop := Claim7.holds Tryd.pinned (.plain (OpenSpec.ofChange gateLookSpec)) gateLookCard

/-- THE SECOND FORM's CARD OF 'subwaylaw11.GatePlays'. -/
def gatePlaysUptoCard : Claim7 := { stood := { row := gatePlaysUptoRow, standIns := [], harness := (true, "1d6a4511c9377491c10140f85eb37ee2c6edf754afcbab5d82afc7c307cd8567"), looks := false }, kinds := [], alts := [], laidByText := true, laidKinds := [.data, .data, .data, .data, .pinned], laidTests := true, laidLooks := .later }
def GatePlaysUptoCardSaid : Prop := Claim7.holds Tryd.pinned (.plain (OpenSpec.upto gatePlaysSpec)) gatePlaysUptoCard

/-- THE SECOND FORM's CARD OF 'subwaylaw11.GateCounts'. -/
def gateCountsUptoCard : Claim7 := { stood := { row := gateCountsUptoRow, standIns := [], harness := (true, "1d6a4511c9377491c10140f85eb37ee2c6edf754afcbab5d82afc7c307cd8567"), looks := false }, kinds := [], alts := [], laidByText := true, laidKinds := [.data, .data, .data, .data, .pinned], laidTests := true, laidLooks := .later }
def GateCountsUptoCardSaid : Prop := Claim7.holds Tryd.pinned (.plain (OpenSpec.upto gateCountsSpec)) gateCountsUptoCard

/-- THE SECOND FORM's CARD OF 'subwaylaw11.GateApart'. -/
def gateApartUptoCard : Claim7 := { stood := { row := gateApartUptoRow, standIns := [], harness := (true, "1d6a4511c9377491c10140f85eb37ee2c6edf754afcbab5d82afc7c307cd8567"), looks := false }, kinds := [], alts := [], laidByText := true, laidKinds := [.data, .data, .data, .data, .pinned], laidTests := true, laidLooks := .later }
def GateApartUptoCardSaid : Prop := Claim7.holds Tryd.pinned (.plain (OpenSpec.upto gateApartSpec)) gateApartUptoCard

/-- THE SECOND FORM's CARD OF 'subwaylaw11.GateNets'. -/
def gateNetsUptoCard : Claim7 := { stood := { row := gateNetsUptoRow, standIns := [], harness := (true, "1d6a4511c9377491c10140f85eb37ee2c6edf754afcbab5d82afc7c307cd8567"), looks := false }, kinds := [], alts := [], laidByText := true, laidKinds := [.data, .data, .data, .data, .pinned], laidTests := true, laidLooks := .later }
def GateNetsUptoCardSaid : Prop := Claim7.holds Tryd.pinned (.plain (OpenSpec.upto gateNetsSpec)) gateNetsUptoCard

/-- THE SECOND FORM's CARD OF 'subwaylaw11.GateFill'. -/
def gateFillUptoCard : Claim7 := { stood := { row := gateFillUptoRow, standIns := [], harness := (true, "1d6a4511c9377491c10140f85eb37ee2c6edf754afcbab5d82afc7c307cd8567"), looks := false }, kinds := [], alts := [], laidByText := true, laidKinds := [.data, .data, .data, .data, .pinned], laidTests := true, laidLooks := .later }
def GateFillUptoCardSaid : Prop := Claim7.holds Tryd.pinned (.plain (OpenSpec.upto gateFillSpec)) gateFillUptoCard

/-- THE SECOND FORM's CARD OF 'subwaylaw11.GateLook'. -/
def gateLookUptoCard : Claim7 := { stood := { row := gateLookUptoRow, standIns := [], harness := (true, "1d6a4511c9377491c10140f85eb37ee2c6edf754afcbab5d82afc7c307cd8567"), looks := false }, kinds := [], alts := [], laidByText := true, laidKinds := [.data, .data, .data, .data, .pinned], laidTests := true, laidLooks := .later }
def GateLookUptoCardSaid : Prop := Claim7.holds Tryd.pinned (.plain (OpenSpec.upto gateLookSpec)) gateLookUptoCard
end Rows
end Go.Proofs.YtfffjaijflbeaaaDoor
