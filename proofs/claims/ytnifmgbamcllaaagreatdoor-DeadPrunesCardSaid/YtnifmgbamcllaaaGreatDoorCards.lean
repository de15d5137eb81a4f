/-
  DERIVED. GIVEN WITH THE SEED: THE CARDS: each row of YtnifmgbamcllaaaGreatDoorRows.lean that lists a variable, with what it lists TIED to the program's text (the seventh form; the later family's looks); each row that meets fmt, with fmt's text TOLD by the authors' own Lean function (tested against real Go, not proved from fmt's source: count such statements apart). THE CARD IS WHAT COUNTS. Prove the row's statement (the work); the ties are given (YtnifmgbamcllaaaGreatDoorTie.lean); close each card by the builder's one call (the guide's Derived/Test/ToyasCard.lean, 'card_holds'). Laid BY PROGRAM, IN A SANDBOX (cutbox-door.mjs). By AI agents, Wed Nov 11 2026. No macro, syntax, notation, axiom, sorry.
-/
import Derived.Test.YtnifmgbamcllaaaGreatDoorRows
import GoSem.ClaimSeven
namespace Go.Proofs.YtnifmgbamcllaaaGreatDoor
namespace Rows

/-- THE TIED CARD OF 'tapewrightlaw16.DeadPrunes'. -/
def deadPrunesCard : Claim7 := { stood := { row := deadPrunesRow, standIns := [], harness := (true, "5d3cf9678a2334af5bdd4b816c6d5d939cf90ae35f12f768ede2adcfb6a74dee"), looks := false }, kinds := [], alts := [], laidByText := true, laidKinds := [.data, .sentinel, .sentinel, .pinned], laidTests := true, laidLooks := .later }
def DeadPrunesCardSaid : Prop := Claim7.holds Tryz.pinned (.plain (OpenSpec.ofChange deadPrunesSpec)) deadPrunesCard

/-- THE TIED CARD OF 'tapewrightlaw16.DeadParts'. -/
def deadPartsCard : Claim7 := { stood := { row := deadPartsRow, standIns := [], harness := (true, "5d3cf9678a2334af5bdd4b816c6d5d939cf90ae35f12f768ede2adcfb6a74dee"), looks := false }, kinds := [], alts := [], laidByText := true, laidKinds := [.data, .sentinel, .sentinel, .pinned], laidTests := true, laidLooks := .later }
def DeadPartsCardSaid : Prop := Claim7.holds Tryz.pinned (.plain (OpenSpec.ofChange deadPartsSpec)) deadPartsCard

/-- THE SECOND FORM's CARD OF 'tapewrightlaw16.DeadPrunes'. -/
def deadPrunesUptoCard : Claim7 := { stood := { row := deadPrunesUptoRow, standIns := [], harness := (true, "5d3cf9678a2334af5bdd4b816c6d5d939cf90ae35f12f768ede2adcfb6a74dee"), looks := false }, kinds := [], alts := [], laidByText := true, laidKinds := [.data, .sentinel, .sentinel, .pinned], laidTests := true, laidLooks := .later }
def DeadPrunesUptoCardSaid : Prop := Claim7.holds Tryz.pinned (.plain (OpenSpec.upto deadPrunesSpec)) deadPrunesUptoCard

/-- THE SECOND FORM's CARD OF 'tapewrightlaw16.DeadParts'. -/
def deadPartsUptoCard : Claim7 := { stood := { row := deadPartsUptoRow, standIns := [], harness := (true, "5d3cf9678a2334af5bdd4b816c6d5d939cf90ae35f12f768ede2adcfb6a74dee"), looks := false }, kinds := [], alts := [], laidByText := true, laidKinds := [.data, .sentinel, .sentinel, .pinned], laidTests := true, laidLooks := .later }
def DeadPartsUptoCardSaid : Prop := Claim7.holds Tryz.pinned (.plain (OpenSpec.upto deadPartsSpec)) deadPartsUptoCard
end Rows
end Go.Proofs.YtnifmgbamcllaaaGreatDoor
