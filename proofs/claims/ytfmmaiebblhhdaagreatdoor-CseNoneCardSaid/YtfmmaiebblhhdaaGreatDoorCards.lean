/-
  DERIVED. GIVEN WITH THE SEED: THE CARDS: each row of YtfmmaiebblhhdaaGreatDoorRows.lean that lists a variable, with what it lists TIED to the program's text (the seventh form; the later family's looks); each row that meets fmt, with fmt's text TOLD by the authors' own Lean function (tested against real Go, not proved from fmt's source: count such statements apart). THE CARD IS WHAT COUNTS. Prove the row's statement (the work); the ties are given (YtfmmaiebblhhdaaGreatDoorTie.lean); close each card by the builder's one call (the guide's Derived/Test/ToyasCard.lean, 'card_holds'). Laid BY PROGRAM, IN A SANDBOX (cutbox-door.mjs). By AI agents, Wed Nov 11 2026. No macro, syntax, notation, axiom, sorry.
-/
import Derived.Test.YtfmmaiebblhhdaaGreatDoorRows
import GoSem.ClaimSeven
namespace Go.Proofs.YtfmmaiebblhhdaaGreatDoor
namespace Rows

/-- THE TIED CARD OF 'tapewrightlaw15.CseMerges'. -/
def cseMergesCard : Claim7 := { stood := { row := cseMergesRow, standIns := [], harness := (true, "2c9b3386ebb09b06acb1873debead72eb4544987fe46b118aa452e481cf45714"), looks := false }, kinds := [], alts := [], laidByText := true, laidKinds := [.data, .data, .data, .data, .sentinel, .sentinel, .pinned], laidTests := true, laidLooks := .later }
def CseMergesCardSaid : Prop := Claim7.holds Tryz.pinned (.plain (OpenSpec.ofChange cseMergesSpec)) cseMergesCard

/-- THE TIED CARD OF 'tapewrightlaw15.CsePlaces'. -/
def csePlacesCard : Claim7 := { stood := { row := csePlacesRow, standIns := [], harness := (true, "2c9b3386ebb09b06acb1873debead72eb4544987fe46b118aa452e481cf45714"), looks := false }, kinds := [], alts := [], laidByText := true, laidKinds := [.data, .data, .data, .data, .sentinel, .sentinel, .pinned], laidTests := true, laidLooks := .later }
def CsePlacesCardSaid : Prop := Claim7.holds Tryz.pinned (.plain (OpenSpec.ofChange csePlacesSpec)) csePlacesCard

/-- THE TIED CARD OF 'tapewrightlaw15.CseNone'. -/
def cseNoneCard : Claim7 := { stood := { row := cseNoneRow, standIns := [], harness := (true, "2c9b3386ebb09b06acb1873debead72eb4544987fe46b118aa452e481cf45714"), looks := false }, kinds := [], alts := [], laidByText := true, laidKinds := [.data, .data, .data, .data, .sentinel, .sentinel, .pinned], laidTests := true, laidLooks := .later }
def CseNoneCardSaid : Prop := Claim7.holds Tryz.pinned (.plain (OpenSpec.ofChange cseNoneSpec)) cseNoneCard

/-- THE SECOND FORM's CARD OF 'tapewrightlaw15.CseMerges'. -/
def cseMergesUptoCard : Claim7 := { stood := { row := cseMergesUptoRow, standIns := [], harness := (true, "2c9b3386ebb09b06acb1873debead72eb4544987fe46b118aa452e481cf45714"), looks := false }, kinds := [], alts := [], laidByText := true, laidKinds := [.data, .data, .data, .data, .sentinel, .sentinel, .pinned], laidTests := true, laidLooks := .later }
def CseMergesUptoCardSaid : Prop := Claim7.holds Tryz.pinned (.plain (OpenSpec.upto cseMergesSpec)) cseMergesUptoCard

/-- THE SECOND FORM's CARD OF 'tapewrightlaw15.CsePlaces'. -/
def csePlacesUptoCard : Claim7 := { stood := { row := csePlacesUptoRow, standIns := [], harness := (true, "2c9b3386ebb09b06acb1873debead72eb4544987fe46b118aa452e481cf45714"), looks := false }, kinds := [], alts := [], laidByText := true, laidKinds := [.data, .data, .data, .data, .sentinel, .sentinel, .pinned], laidTests := true, laidLooks := .later }
def CsePlacesUptoCardSaid : Prop := Claim7.holds Tryz.pinned (.plain (OpenSpec.upto csePlacesSpec)) csePlacesUptoCard

/-- THE SECOND FORM's CARD OF 'tapewrightlaw15.CseNone'. -/
def cseNoneUptoCard : Claim7 := { stood := { row := cseNoneUptoRow, standIns := [], harness := (true, "2c9b3386ebb09b06acb1873debead72eb4544987fe46b118aa452e481cf45714"), looks := false }, kinds := [], alts := [], laidByText := true, laidKinds := [.data, .data, .data, .data, .sentinel, .sentinel, .pinned], laidTests := true, laidLooks := .later }
def CseNoneUptoCardSaid : Prop := Claim7.holds Tryz.pinned (.plain (OpenSpec.upto cseNoneSpec)) cseNoneUptoCard
end Rows
end Go.Proofs.YtfmmaiebblhhdaaGreatDoor
