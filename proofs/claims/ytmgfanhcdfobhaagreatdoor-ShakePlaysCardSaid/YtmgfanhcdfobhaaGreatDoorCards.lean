/-
  DERIVED. GIVEN WITH THE SEED: THE CARDS: each row of YtmgfanhcdfobhaaGreatDoorRows.lean that lists a variable, with what it lists TIED to the program's text (the seventh form; the later family's looks); each row that meets fmt, with fmt's text TOLD by the authors' own Lean function (tested against real Go, not proved from fmt's source: count such statements apart). THE CARD IS WHAT COUNTS. Prove the row's statement (the work); the ties are given (YtmgfanhcdfobhaaGreatDoorTie.lean); close each card by the builder's one call (the guide's Derived/Test/ToyasCard.lean, 'card_holds'). Laid BY PROGRAM, IN A SANDBOX (cutbox-door.mjs). By AI agents, Wed Nov 11 2026. No macro, syntax, notation, axiom, sorry.
-/
import Derived.Test.YtmgfanhcdfobhaaGreatDoorRows
import GoSem.ClaimSeven
namespace Go.Proofs.YtmgfanhcdfobhaaGreatDoor
namespace Rows

/-- THE TIED CARD OF 'subwaylaw10.VaultPlays'. -/
def vaultPlaysCard : Claim7 := { stood := { row := vaultPlaysRow, standIns := [], harness := (true, "aa3e160eb6990424a2af793c7c7e870f6f75d2f1604061b82149b040707887c5"), looks := false }, kinds := [], alts := [], laidByText := true, laidKinds := [.data, .data, .data, .data, .pinned], laidTests := true, laidLooks := .later }
def VaultPlaysCardSaid : Prop := Claim7.holds Tryz.pinned (.plain (OpenSpec.ofChange vaultPlaysSpec)) vaultPlaysCard

/-- THE TIED CARD OF 'subwaylaw10.VaultProof'. -/
def vaultProofCard : Claim7 := { stood := { row := vaultProofRow, standIns := [], harness := (true, "aa3e160eb6990424a2af793c7c7e870f6f75d2f1604061b82149b040707887c5"), looks := false }, kinds := [], alts := [], laidByText := true, laidKinds := [.data, .data, .data, .data, .pinned], laidTests := true, laidLooks := .later }
def VaultProofCardSaid : Prop := Claim7.holds Tryz.pinned (.plain (OpenSpec.ofChange vaultProofSpec)) vaultProofCard

/-- THE TIED CARD OF 'subwaylaw10.VaultGone'. -/
def vaultGoneCard : Claim7 := { stood := { row := vaultGoneRow, standIns := [], harness := (true, "aa3e160eb6990424a2af793c7c7e870f6f75d2f1604061b82149b040707887c5"), looks := false }, kinds := [], alts := [], laidByText := true, laidKinds := [.data, .data, .data, .data, .pinned], laidTests := true, laidLooks := .later }
def VaultGoneCardSaid : Prop := Claim7.holds Tryz.pinned (.plain (OpenSpec.ofChange vaultGoneSpec)) vaultGoneCard

/-- THE TIED CARD OF 'subwaylaw10.VaultTime'. -/
def vaultTimeCard : Claim7 := { stood := { row := vaultTimeRow, standIns := [], harness := (true, "aa3e160eb6990424a2af793c7c7e870f6f75d2f1604061b82149b040707887c5"), looks := false }, kinds := [], alts := [], laidByText := true, laidKinds := [.data, .data, .data, .data, .pinned], laidTests := true, laidLooks := .later }
def VaultTimeCardSaid : Prop := Claim7.holds Tryz.pinned (.plain (OpenSpec.ofChange vaultTimeSpec)) vaultTimeCard

/-- THE TIED CARD OF 'subwaylaw10.VaultWants'. -/
def vaultWantsCard : Claim7 := { stood := { row := vaultWantsRow, standIns := [], harness := (true, "aa3e160eb6990424a2af793c7c7e870f6f75d2f1604061b82149b040707887c5"), looks := false }, kinds := [], alts := [], laidByText := true, laidKinds := [.data, .data, .data, .data, .pinned], laidTests := true, laidLooks := .later }
def VaultWantsCardSaid : Prop := Claim7.holds Tryz.pinned (.plain (OpenSpec.ofChange vaultWantsSpec)) vaultWantsCard

/-- THE TIED CARD OF 'subwaylaw10.VaultRevokes'. -/
def vaultRevokesCard : Claim7 := { stood := { row := vaultRevokesRow, standIns := [], harness := (true, "aa3e160eb6990424a2af793c7c7e870f6f75d2f1604061b82149b040707887c5"), looks := false }, kinds := [], alts := [], laidByText := true, laidKinds := [.data, .data, .data, .data, .pinned], laidTests := true, laidLooks := .later }
def VaultRevokesCardSaid : Prop := Claim7.holds Tryz.pinned (.plain (OpenSpec.ofChange vaultRevokesSpec)) vaultRevokesCard

/-- THE TIED CARD OF 'subwaylaw12.ShakeJust'. -/
def shakeJustCard : Claim7 := { stood := { row := shakeJustRow, standIns := [], harness := (true, "aa3e160eb6990424a2af793c7c7e870f6f75d2f1604061b82149b040707887c5"), looks := false }, kinds := [], alts := [], laidByText := true, laidKinds := [.data, .data, .data, .data, .pinned], laidTests := true, laidLooks := .later }
def ShakeJustCardSaid : Prop := Claim7.holds Tryz.pinned (.plain (OpenSpec.ofChange shakeJustSpec)) shakeJustCard

/-- THE TIED CARD OF 'subwaylaw12.ShakeOver'. -/
def shakeOverCard : Claim7 := { stood := { row := shakeOverRow, standIns := [], harness := (true, "aa3e160eb6990424a2af793c7c7e870f6f75d2f1604061b82149b040707887c5"), looks := false }, kinds := [], alts := [], laidByText := true, laidKinds := [.data, .data, .data, .data, .pinned], laidTests := true, laidLooks := .later }
def ShakeOverCardSaid : Prop := Claim7.holds Tryz.pinned (.plain (OpenSpec.ofChange shakeOverSpec)) shakeOverCard

/-- THE TIED CARD OF 'subwaylaw12.ShakeNonce'. -/
def shakeNonceCard : Claim7 := { stood := { row := shakeNonceRow, standIns := [], harness := (true, "aa3e160eb6990424a2af793c7c7e870f6f75d2f1604061b82149b040707887c5"), looks := false }, kinds := [], alts := [], laidByText := true, laidKinds := [.data, .data, .data, .data, .pinned], laidTests := true, laidLooks := .later }
def ShakeNonceCardSaid : Prop := Claim7.holds Tryz.pinned (.plain (OpenSpec.ofChange shakeNonceSpec)) shakeNonceCard

/-- THE TIED CARD OF 'subwaylaw12.ShakeSays'. -/
def shakeSaysCard : Claim7 := { stood := { row := shakeSaysRow, standIns := [], harness := (true, "aa3e160eb6990424a2af793c7c7e870f6f75d2f1604061b82149b040707887c5"), looks := false }, kinds := [], alts := [], laidByText := true, laidKinds := [.data, .data, .data, .data, .pinned], laidTests := true, laidLooks := .later }
def ShakeSaysCardSaid : Prop := Claim7.holds Tryz.pinned (.plain (OpenSpec.ofChange shakeSaysSpec)) shakeSaysCard

/-- THE TIED CARD OF 'subwaylaw12.ShakePlays'. -/
def shakePlaysCard : Claim7 := { stood := { row := shakePlaysRow, standIns := [], harness := (true, "aa3e160eb6990424a2af793c7c7e870f6f75d2f1604061b82149b040707887c5"), looks := false }, kinds := [], alts := [], laidByText := true, laidKinds := [.data, .data, .data, .data, .pinned], laidTests := true, laidLooks := .later }
def ShakePlaysCardSaid : Prop := Claim7.holds Tryz.pinned (.plain (OpenSpec.ofChange shakePlaysSpec)) shakePlaysCard

/-- THE TIED CARD OF 'subwaylaw12.ShakeBetween'. -/
def shakeBetweenCard : Claim7 := { stood := { row := shakeBetweenRow, standIns := [], harness := (true, "aa3e160eb6990424a2af793c7c7e870f6f75d2f1604061b82149b040707887c5"), looks := false }, kinds := [], alts := [], laidByText := true, laidKinds := [.data, .data, .data, .data, .pinned], laidTests := true, laidLooks := .later }
def ShakeBetweenCardSaid : Prop := Claim7.holds Tryz.pinned (.plain (OpenSpec.ofChange shakeBetweenSpec)) shakeBetweenCard

/-- THE SECOND FORM's CARD OF 'subwaylaw10.VaultPlays'. -/
def vaultPlaysUptoCard : Claim7 := { stood := { row := vaultPlaysUptoRow, standIns := [], harness := (true, "aa3e160eb6990424a2af793c7c7e870f6f75d2f1604061b82149b040707887c5"), looks := false }, kinds := [], alts := [], laidByText := true, laidKinds := [.data, .data, .data, .data, .pinned], laidTests := true, laidLooks := .later }
def VaultPlaysUptoCardSaid : Prop := Claim7.holds Tryz.pinned (.plain (OpenSpec.upto vaultPlaysSpec)) vaultPlaysUptoCard

/-- THE SECOND FORM's CARD OF 'subwaylaw10.VaultProof'. -/
def vaultProofUptoCard : Claim7 := { stood := { row := vaultProofUptoRow, standIns := [], harness := (true, "aa3e160eb6990424a2af793c7c7e870f6f75d2f1604061b82149b040707887c5"), looks := false }, kinds := [], alts := [], laidByText := true, laidKinds := [.data, .data, .data, .data, .pinned], laidTests := true, laidLooks := .later }
def VaultProofUptoCardSaid : Prop := Claim7.holds Tryz.pinned (.plain (OpenSpec.upto vaultProofSpec)) vaultProofUptoCard

/-- THE SECOND FORM's CARD OF 'subwaylaw10.VaultGone'. -/
def vaultGoneUptoCard : Claim7 := { stood := { row := vaultGoneUptoRow, standIns := [], harness := (true, "aa3e160eb6990424a2af793c7c7e870f6f75d2f1604061b82149b040707887c5"), looks := false }, kinds := [], alts := [], laidByText := true, laidKinds := [.data, .data, .data, .data, .pinned], laidTests := true, laidLooks := .later }
def VaultGoneUptoCardSaid : Prop := Claim7.holds Tryz.pinned (.plain (OpenSpec.upto vaultGoneSpec)) vaultGoneUptoCard

/-- THE SECOND FORM's CARD OF 'subwaylaw10.VaultTime'. -/
def vaultTimeUptoCard : Claim7 := { stood := { row := vaultTimeUptoRow, standIns := [], harness := (true, "aa3e160eb6990424a2af793c7c7e870f6f75d2f1604061b82149b040707887c5"), looks := false }, kinds := [], alts := [], laidByText := true, laidKinds := [.data, .data, .data, .data, .pinned], laidTests := true, laidLooks := .later }
def VaultTimeUptoCardSaid : Prop := Claim7.holds Tryz.pinned (.plain (OpenSpec.upto vaultTimeSpec)) vaultTimeUptoCard

/-- THE SECOND FORM's CARD OF 'subwaylaw10.VaultWants'. -/
def vaultWantsUptoCard : Claim7 := { stood := { row := vaultWantsUptoRow, standIns := [], harness := (true, "aa3e160eb6990424a2af793c7c7e870f6f75d2f1604061b82149b040707887c5"), looks := false }, kinds := [], alts := [], laidByText := true, laidKinds := [.data, .data, .data, .data, .pinned], laidTests := true, laidLooks := .later }
def VaultWantsUptoCardSaid : Prop := Claim7.holds Tryz.pinned (.plain (OpenSpec.upto vaultWantsSpec)) vaultWantsUptoCard

/-- THE SECOND FORM's CARD OF 'subwaylaw10.VaultRevokes'. -/
def vaultRevokesUptoCard : Claim7 := { stood := { row := vaultRevokesUptoRow, standIns := [], harness := (true, "aa3e160eb6990424a2af793c7c7e870f6f75d2f1604061b82149b040707887c5"), looks := false }, kinds := [], alts := [], laidByText := true, laidKinds := [.data, .data, .data, .data, .pinned], laidTests := true, laidLooks := .later }
def VaultRevokesUptoCardSaid : Prop := Claim7.holds Tryz.pinned (.plain (OpenSpec.upto vaultRevokesSpec)) vaultRevokesUptoCard

/-- THE SECOND FORM's CARD OF 'subwaylaw12.ShakeJust'. -/
def shakeJustUptoCard : Claim7 := { stood := { row := shakeJustUptoRow, standIns := [], harness := (true, "aa3e160eb6990424a2af793c7c7e870f6f75d2f1604061b82149b040707887c5"), looks := false }, kinds := [], alts := [], laidByText := true, laidKinds := [.data, .data, .data, .data, .pinned], laidTests := true, laidLooks := .later }
def ShakeJustUptoCardSaid : Prop := Claim7.holds Tryz.pinned (.plain (OpenSpec.upto shakeJustSpec)) shakeJustUptoCard

/-- THE SECOND FORM's CARD OF 'subwaylaw12.ShakeOver'. -/
def shakeOverUptoCard : Claim7 := { stood := { row := shakeOverUptoRow, standIns := [], harness := (true, "aa3e160eb6990424a2af793c7c7e870f6f75d2f1604061b82149b040707887c5"), looks := false }, kinds := [], alts := [], laidByText := true, laidKinds := [.data, .data, .data, .data, .pinned], laidTests := true, laidLooks := .later }
def ShakeOverUptoCardSaid : Prop := Claim7.holds Tryz.pinned (.plain (OpenSpec.upto shakeOverSpec)) shakeOverUptoCard

/-- THE SECOND FORM's CARD OF 'subwaylaw12.ShakeNonce'. -/
def shakeNonceUptoCard : Claim7 := { stood := { row := shakeNonceUptoRow, standIns := [], harness := (true, "aa3e160eb6990424a2af793c7c7e870f6f75d2f1604061b82149b040707887c5"), looks := false }, kinds := [], alts := [], laidByText := true, laidKinds := [.data, .data, .data, .data, .pinned], laidTests := true, laidLooks := .later }
def ShakeNonceUptoCardSaid : Prop := Claim7.holds Tryz.pinned (.plain (OpenSpec.upto shakeNonceSpec)) shakeNonceUptoCard

/-- THE SECOND FORM's CARD OF 'subwaylaw12.ShakeSays'. -/
def shakeSaysUptoCard : Claim7 := { stood := { row := shakeSaysUptoRow, standIns := [], harness := (true, "aa3e160eb6990424a2af793c7c7e870f6f75d2f1604061b82149b040707887c5"), looks := false }, kinds := [], alts := [], laidByText := true, laidKinds := [.data, .data, .data, .data, .pinned], laidTests := true, laidLooks := .later }
def ShakeSaysUptoCardSaid : Prop := Claim7.holds Tryz.pinned (.plain (OpenSpec.upto shakeSaysSpec)) shakeSaysUptoCard

/-- THE SECOND FORM's CARD OF 'subwaylaw12.ShakePlays'. -/
def shakePlaysUptoCard : Claim7 := { stood := { row := shakePlaysUptoRow, standIns := [], harness := (true, "aa3e160eb6990424a2af793c7c7e870f6f75d2f1604061b82149b040707887c5"), looks := false }, kinds := [], alts := [], laidByText := true, laidKinds := [.data, .data, .data, .data, .pinned], laidTests := true, laidLooks := .later }
def ShakePlaysUptoCardSaid : Prop := Claim7.holds Tryz.pinned (.plain (OpenSpec.upto shakePlaysSpec)) shakePlaysUptoCard

/-- THE SECOND FORM's CARD OF 'subwaylaw12.ShakeBetween'. -/
def shakeBetweenUptoCard : Claim7 := { stood := { row := shakeBetweenUptoRow, standIns := [], harness := (true, "aa3e160eb6990424a2af793c7c7e870f6f75d2f1604061b82149b040707887c5"), looks := false }, kinds := [], alts := [], laidByText := true, laidKinds := [.data, .data, .data, .data, .pinned], laidTests := true, laidLooks := .later }
def ShakeBetweenUptoCardSaid : Prop := Claim7.holds Tryz.pinned (.plain (OpenSpec.upto shakeBetweenSpec)) shakeBetweenUptoCard
end Rows
end Go.Proofs.YtmgfanhcdfobhaaGreatDoor
