/-
  DERIVED. GIVEN WITH THE SEED: THE CARDS: each row of YtibipfdpembkgaaGreatDoorRows.lean that lists a variable, with what it lists TIED to the program's text (the seventh form; the later family's looks); each row that meets fmt, with fmt's text TOLD by the authors' own Lean function (tested against real Go, not proved from fmt's source: count such statements apart). THE CARD IS WHAT COUNTS. Prove the row's statement (the work); the ties are given (YtibipfdpembkgaaGreatDoorTie.lean); close each card by the builder's one call (the guide's Derived/Test/ToyasCard.lean, 'card_holds'). Laid BY PROGRAM, IN A SANDBOX (cutbox-door.mjs). By AI agents, Wed Nov 11 2026. No macro, syntax, notation, axiom, sorry.
-/
import Derived.Test.YtibipfdpembkgaaGreatDoorRows
import GoSem.ClaimSeven
namespace Go.Proofs.YtibipfdpembkgaaGreatDoor
namespace Rows

/-- THE TIED CARD OF 'subwaytop.TopGrace'. -/
def topGraceCard : Claim7 := { stood := { row := topGraceRow, standIns := [], harness := (true, "8f526a0e13d9c3f21c0a78e3887caeea680bfc3e9f1536b5c0b1e06f5606d770"), looks := true }, kinds := [], alts := [], laidByText := true, laidKinds := [.data, .data, .data, .data, .pinned], laidTests := true, laidLooks := .later }
def TopGraceCardSaid : Prop := Claim7.holds Tryz.pinned (.plain (OpenSpec.ofChange topGraceSpec)) topGraceCard

/-- THE SECOND FORM's CARD OF 'subwaytop.TopGrace'. -/
def topGraceUptoCard : Claim7 := { stood := { row := topGraceUptoRow, standIns := [], harness := (true, "8f526a0e13d9c3f21c0a78e3887caeea680bfc3e9f1536b5c0b1e06f5606d770"), looks := true }, kinds := [], alts := [], laidByText := true, laidKinds := [.data, .data, .data, .data, .pinned], laidTests := true, laidLooks := .later }
def TopGraceUptoCardSaid : Prop := Claim7.holds Tryz.pinned (.plain (OpenSpec.upto topGraceSpec)) topGraceUptoCard
end Rows
end Go.Proofs.YtibipfdpembkgaaGreatDoor
