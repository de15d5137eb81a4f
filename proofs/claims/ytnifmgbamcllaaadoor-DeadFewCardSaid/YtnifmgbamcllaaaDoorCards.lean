/-
  DERIVED. GIVEN WITH THE SEED: THE CARDS: each row of YtnifmgbamcllaaaDoorRows.lean that lists a variable, with what it lists TIED to the program's text (the seventh form; the later family's looks); each row that meets fmt, with fmt's text TOLD by the authors' own Lean function (tested against real Go, not proved from fmt's source: count such statements apart). THE CARD IS WHAT COUNTS. Prove the row's statement (the work); the ties are given (YtnifmgbamcllaaaDoorTie.lean); close each card by the builder's one call (the guide's Derived/Test/ToyasCard.lean, 'card_holds'). Laid BY PROGRAM, IN A SANDBOX (cutbox-door.mjs). By AI agents, Wed Nov 11 2026. No macro, syntax, notation, axiom, sorry.
-/
import Derived.Test.YtnifmgbamcllaaaDoorRows
import GoSem.ClaimSeven
namespace Go.Proofs.YtnifmgbamcllaaaDoor
namespace Rows

/-- THE TIED CARD OF 'tapewrightlaw16.DeadAll'. -/
def deadAllCard : Claim7 := { stood := { row := deadAllRow, standIns := [], harness := (true, "2613fadd453da2ef0202a92d416a63298cd0afe38bac73a3e31a80e46cb38ab0"), looks := false }, kinds := [], alts := [], laidByText := true, laidKinds := [.data, .sentinel, .sentinel, .pinned], laidTests := true, laidLooks := .later }
def DeadAllCardSaid : Prop := Claim7.holds Tryd.pinned (.plain (OpenSpec.ofChange deadAllSpec)) deadAllCard

/-- THE TIED CARD OF 'tapewrightlaw16.DeadFew'. -/
def deadFewCard : Claim7 := { stood := { row := deadFewRow, standIns := [], harness := (true, "2613fadd453da2ef0202a92d416a63298cd0afe38bac73a3e31a80e46cb38ab0"), looks := false }, kinds := [], alts := [], laidByText := true, laidKinds := [.data, .sentinel, .sentinel, .pinned], laidTests := true, laidLooks := .later }
def DeadFewCardSaid : Prop := Claim7.holds Tryd.pinned (.plain (OpenSpec.ofChange deadFewSpec)) deadFewCard

/-- THE SECOND FORM's CARD OF 'tapewrightlaw16.DeadAll'. -/
def deadAllUptoCard : Claim7 := { stood := { row := deadAllUptoRow, standIns := [], harness := (true, "2613fadd453da2ef0202a92d416a63298cd0afe38bac73a3e31a80e46cb38ab0"), looks := false }, kinds := [], alts := [], laidByText := true, laidKinds := [.data, .sentinel, .sentinel, .pinned], laidTests := true, laidLooks := .later }
def DeadAllUptoCardSaid : Prop := Claim7.holds Tryd.pinned (.plain (OpenSpec.upto deadAllSpec)) deadAllUptoCard

/-- THE SECOND FORM's CARD OF 'tapewrightlaw16.DeadFew'. -/
def deadFewUptoCard : Claim7 := { stood := { row := deadFewUptoRow, standIns := [], harness := (true, "2613fadd453da2ef0202a92d416a63298cd0afe38bac73a3e31a80e46cb38ab0"), looks := false }, kinds := [], alts := [], laidByText := true, laidKinds := [.data, .sentinel, .sentinel, .pinned], laidTests := true, laidLooks := .later }
def DeadFewUptoCardSaid : Prop := Claim7.holds Tryd.pinned (.plain (OpenSpec.upto deadFewSpec)) deadFewUptoCard
end Rows
end Go.Proofs.YtnifmgbamcllaaaDoor
