/-
  DERIVED. GIVEN WITH THE SEED: THE CARDS: each row of YtphnnbfgiomaoaaGreatDoorRows.lean that lists a variable, with what it lists TIED to the program's text (the seventh form; the later family's looks); each row that meets fmt, with fmt's text TOLD by the authors' own Lean function (tested against real Go, not proved from fmt's source: count such statements apart). THE CARD IS WHAT COUNTS. Prove the row's statement (the work); the ties are given (YtphnnbfgiomaoaaGreatDoorTie.lean); close each card by the builder's one call (the guide's Derived/Test/ToyasCard.lean, 'card_holds'). Laid BY PROGRAM, IN A SANDBOX (cutbox-door.mjs). By AI agents, Wed Nov 11 2026. No macro, syntax, notation, axiom, sorry.
-/
import Derived.Test.YtphnnbfgiomaoaaGreatDoorRows
import GoSem.ClaimSeven
namespace Go.Proofs.YtphnnbfgiomaoaaGreatDoor
namespace Rows

/-- THE TIED CARD OF 'tapewrightlaw13.AdjointMakes'. -/
def adjointMakesCard : Claim7 := { stood := { row := adjointMakesRow, standIns := [], harness := (true, "ef9c78801eefa640dac9c25ad683943695ffa61e6605dbd6d5ffb3da78267c4c"), looks := true }, kinds := [], alts := [], laidByText := true, laidKinds := [.data, .data, .data, .data, .handle, .sentinel, .sentinel, .pinned], laidTests := true, laidLooks := .later }
def AdjointMakesCardSaid : Prop := Claim7.holds Tryz.pinned (.plain (OpenSpec.ofChange adjointMakesSpec)) adjointMakesCard

/-- THE TIED CARD OF 'tapewrightlaw13.AdjointSlopes'. -/
def adjointSlopesCard : Claim7 := { stood := { row := adjointSlopesRow, standIns := [], harness := (true, "ef9c78801eefa640dac9c25ad683943695ffa61e6605dbd6d5ffb3da78267c4c"), looks := true }, kinds := [], alts := [], laidByText := true, laidKinds := [.data, .data, .data, .data, .handle, .sentinel, .sentinel, .pinned], laidTests := true, laidLooks := .later }
def AdjointSlopesCardSaid : Prop := Claim7.holds Tryz.pinned (.plain (OpenSpec.ofChange adjointSlopesSpec)) adjointSlopesCard

/-- THE TIED CARD OF 'tapewrightlaw13.AdjointTimes'. -/
def adjointTimesCard : Claim7 := { stood := { row := adjointTimesRow, standIns := [], harness := (true, "ef9c78801eefa640dac9c25ad683943695ffa61e6605dbd6d5ffb3da78267c4c"), looks := true }, kinds := [], alts := [], laidByText := true, laidKinds := [.data, .data, .data, .data, .handle, .sentinel, .sentinel, .pinned], laidTests := true, laidLooks := .later }
def AdjointTimesCardSaid : Prop := Claim7.holds Tryz.pinned (.plain (OpenSpec.ofChange adjointTimesSpec)) adjointTimesCard

/-- THE TIED CARD OF 'tapewrightlaw13.AdjointConst'. -/
def adjointConstCard : Claim7 := { stood := { row := adjointConstRow, standIns := [], harness := (true, "ef9c78801eefa640dac9c25ad683943695ffa61e6605dbd6d5ffb3da78267c4c"), looks := true }, kinds := [], alts := [], laidByText := true, laidKinds := [.data, .data, .data, .data, .handle, .sentinel, .sentinel, .pinned], laidTests := true, laidLooks := .later }
def AdjointConstCardSaid : Prop := Claim7.holds Tryz.pinned (.plain (OpenSpec.ofChange adjointConstSpec)) adjointConstCard

/-- THE TIED CARD OF 'tapewrightlaw13.AdjointLine'. -/
def adjointLineCard : Claim7 := { stood := { row := adjointLineRow, standIns := [], harness := (true, "ef9c78801eefa640dac9c25ad683943695ffa61e6605dbd6d5ffb3da78267c4c"), looks := true }, kinds := [], alts := [], laidByText := true, laidKinds := [.data, .data, .data, .data, .handle, .sentinel, .sentinel, .pinned], laidTests := true, laidLooks := .later }
def AdjointLineCardSaid : Prop := Claim7.holds Tryz.pinned (.plain (OpenSpec.ofChange adjointLineSpec)) adjointLineCard

/-- THE TIED CARD OF 'tapewrightlaw13.AdjointNone'. -/
def adjointNoneCard : Claim7 := { stood := { row := adjointNoneRow, standIns := [], harness := (true, "ef9c78801eefa640dac9c25ad683943695ffa61e6605dbd6d5ffb3da78267c4c"), looks := true }, kinds := [], alts := [], laidByText := true, laidKinds := [.data, .data, .data, .data, .handle, .sentinel, .sentinel, .pinned], laidTests := true, laidLooks := .later }
def AdjointNoneCardSaid : Prop := Claim7.holds Tryz.pinned (.plain (OpenSpec.ofChange adjointNoneSpec)) adjointNoneCard

/-- THE TIED CARD OF 'tapewrightlaw15.CseKeeps'. -/
def cseKeepsCard : Claim7 := { stood := { row := cseKeepsRow, standIns := [], harness := (true, "ef9c78801eefa640dac9c25ad683943695ffa61e6605dbd6d5ffb3da78267c4c"), looks := true }, kinds := [], alts := [], laidByText := true, laidKinds := [.data, .data, .data, .data, .handle, .sentinel, .sentinel, .pinned], laidTests := true, laidLooks := .later }
def CseKeepsCardSaid : Prop := Claim7.holds Tryz.pinned (.plain (OpenSpec.ofChange cseKeepsSpec)) cseKeepsCard

/-- THE TIED CARD OF 'tapewrightlaw18.ExecTights'. -/
def execTightsCard : Claim7 := { stood := { row := execTightsRow, standIns := [], harness := (true, "ef9c78801eefa640dac9c25ad683943695ffa61e6605dbd6d5ffb3da78267c4c"), looks := true }, kinds := [], alts := [], laidByText := true, laidKinds := [.data, .data, .data, .data, .handle, .sentinel, .sentinel, .pinned], laidTests := true, laidLooks := .later }
def ExecTightsCardSaid : Prop := Claim7.holds Tryz.pinned (.plain (OpenSpec.ofChange execTightsSpec)) execTightsCard

/-- THE TIED CARD OF 'tapewrightlaw18.ExecTwice'. -/
def execTwiceCard : Claim7 := { stood := { row := execTwiceRow, standIns := [], harness := (true, "ef9c78801eefa640dac9c25ad683943695ffa61e6605dbd6d5ffb3da78267c4c"), looks := true }, kinds := [], alts := [], laidByText := true, laidKinds := [.data, .data, .data, .data, .handle, .sentinel, .sentinel, .pinned], laidTests := true, laidLooks := .later }
def ExecTwiceCardSaid : Prop := Claim7.holds Tryz.pinned (.plain (OpenSpec.ofChange execTwiceSpec)) execTwiceCard

/-- THE TIED CARD OF 'tapewrightlaw18.ExecSmall'. -/
def execSmallCard : Claim7 := { stood := { row := execSmallRow, standIns := [], harness := (true, "ef9c78801eefa640dac9c25ad683943695ffa61e6605dbd6d5ffb3da78267c4c"), looks := true }, kinds := [], alts := [], laidByText := true, laidKinds := [.data, .data, .data, .data, .handle, .sentinel, .sentinel, .pinned], laidTests := true, laidLooks := .later }
def ExecSmallCardSaid : Prop := Claim7.holds Tryz.pinned (.plain (OpenSpec.ofChange execSmallSpec)) execSmallCard

/-- THE TIED CARD OF 'tapewrightlaw18.ExecKeeps'. -/
def execKeepsCard : Claim7 := { stood := { row := execKeepsRow, standIns := [], harness := (true, "ef9c78801eefa640dac9c25ad683943695ffa61e6605dbd6d5ffb3da78267c4c"), looks := true }, kinds := [], alts := [], laidByText := true, laidKinds := [.data, .data, .data, .data, .handle, .sentinel, .sentinel, .pinned], laidTests := true, laidLooks := .later }
def ExecKeepsCardSaid : Prop := Claim7.holds Tryz.pinned (.plain (OpenSpec.ofChange execKeepsSpec)) execKeepsCard

/-- THE SECOND FORM's CARD OF 'tapewrightlaw13.AdjointMakes'. -/
def adjointMakesUptoCard : Claim7 := { stood := { row := adjointMakesUptoRow, standIns := [], harness := (true, "ef9c78801eefa640dac9c25ad683943695ffa61e6605dbd6d5ffb3da78267c4c"), looks := true }, kinds := [], alts := [], laidByText := true, laidKinds := [.data, .data, .data, .data, .handle, .sentinel, .sentinel, .pinned], laidTests := true, laidLooks := .later }
def AdjointMakesUptoCardSaid : Prop := Claim7.holds Tryz.pinned (.plain (OpenSpec.upto adjointMakesSpec)) adjointMakesUptoCard

/-- THE SECOND FORM's CARD OF 'tapewrightlaw13.AdjointSlopes'. -/
def adjointSlopesUptoCard : Claim7 := { stood := { row := adjointSlopesUptoRow, standIns := [], harness := (true, "ef9c78801eefa640dac9c25ad683943695ffa61e6605dbd6d5ffb3da78267c4c"), looks := true }, kinds := [], alts := [], laidByText := true, laidKinds := [.data, .data, .data, .data, .handle, .sentinel, .sentinel, .pinned], laidTests := true, laidLooks := .later }
def AdjointSlopesUptoCardSaid : Prop := Claim7.holds Tryz.pinned (.plain (OpenSpec.upto adjointSlopesSpec)) adjointSlopesUptoCard

/-- THE SECOND FORM's CARD OF 'tapewrightlaw13.AdjointTimes'. -/
def adjointTimesUptoCard : Claim7 := { stood := { row := adjointTimesUptoRow, standIns := [], harness := (true, "ef9c78801eefa640dac9c25ad683943695ffa61e6605dbd6d5ffb3da78267c4c"), looks := true }, kinds := [], alts := [], laidByText := true, laidKinds := [.data, .data, .data, .data, .handle, .sentinel, .sentinel, .pinned], laidTests := true, laidLooks := .later }
def AdjointTimesUptoCardSaid : Prop := Claim7.holds Tryz.pinned (.plain (OpenSpec.upto adjointTimesSpec)) adjointTimesUptoCard

/-- THE SECOND FORM's CARD OF 'tapewrightlaw13.AdjointConst'. -/
def adjointConstUptoCard : Claim7 := { stood := { row := adjointConstUptoRow, standIns := [], harness := (true, "ef9c78801eefa640dac9c25ad683943695ffa61e6605dbd6d5ffb3da78267c4c"), looks := true }, kinds := [], alts := [], laidByText := true, laidKinds := [.data, .data, .data, .data, .handle, .sentinel, .sentinel, .pinned], laidTests := true, laidLooks := .later }
def AdjointConstUptoCardSaid : Prop := Claim7.holds Tryz.pinned (.plain (OpenSpec.upto adjointConstSpec)) adjointConstUptoCard

/-- THE SECOND FORM's CARD OF 'tapewrightlaw13.AdjointLine'. -/
def adjointLineUptoCard : Claim7 := { stood := { row := adjointLineUptoRow, standIns := [], harness := (true, "ef9c78801eefa640dac9c25ad683943695ffa61e6605dbd6d5ffb3da78267c4c"), looks := true }, kinds := [], alts := [], laidByText := true, laidKinds := [.data, .data, .data, .data, .handle, .sentinel, .sentinel, .pinned], laidTests := true, laidLooks := .later }
def AdjointLineUptoCardSaid : Prop := Claim7.holds Tryz.pinned (.plain (OpenSpec.upto adjointLineSpec)) adjointLineUptoCard

/-- THE SECOND FORM's CARD OF 'tapewrightlaw13.AdjointNone'. -/
def adjointNoneUptoCard : Claim7 := { stood := { row := adjointNoneUptoRow, standIns := [], harness := (true, "ef9c78801eefa640dac9c25ad683943695ffa61e6605dbd6d5ffb3da78267c4c"), looks := true }, kinds := [], alts := [], laidByText := true, laidKinds := [.data, .data, .data, .data, .handle, .sentinel, .sentinel, .pinned], laidTests := true, laidLooks := .later }
def AdjointNoneUptoCardSaid : Prop := Claim7.holds Tryz.pinned (.plain (OpenSpec.upto adjointNoneSpec)) adjointNoneUptoCard

/-- THE SECOND FORM's CARD OF 'tapewrightlaw15.CseKeeps'. -/
def cseKeepsUptoCard : Claim7 := { stood := { row := cseKeepsUptoRow, standIns := [], harness := (true, "ef9c78801eefa640dac9c25ad683943695ffa61e6605dbd6d5ffb3da78267c4c"), looks := true }, kinds := [], alts := [], laidByText := true, laidKinds := [.data, .data, .data, .data, .handle, .sentinel, .sentinel, .pinned], laidTests := true, laidLooks := .later }
def CseKeepsUptoCardSaid : Prop := Claim7.holds Tryz.pinned (.plain (OpenSpec.upto cseKeepsSpec)) cseKeepsUptoCard

/-- THE SECOND FORM's CARD OF 'tapewrightlaw18.ExecTights'. -/
def execTightsUptoCard : Claim7 := { stood := { row := execTightsUptoRow, standIns := [], harness := (true, "ef9c78801eefa640dac9c25ad683943695ffa61e6605dbd6d5ffb3da78267c4c"), looks := true }, kinds := [], alts := [], laidByText := true, laidKinds := [.data, .data, .data, .data, .handle, .sentinel, .sentinel, .pinned], laidTests := true, laidLooks := .later }
def ExecTightsUptoCardSaid : Prop := Claim7.holds Tryz.pinned (.plain (OpenSpec.upto execTightsSpec)) execTightsUptoCard

/-- THE SECOND FORM's CARD OF 'tapewrightlaw18.ExecTwice'. -/
def execTwiceUptoCard : Claim7 := { stood := { row := execTwiceUptoRow, standIns := [], harness := (true, "ef9c78801eefa640dac9c25ad683943695ffa61e6605dbd6d5ffb3da78267c4c"), looks := true }, kinds := [], alts := [], laidByText := true, laidKinds := [.data, .data, .data, .data, .handle, .sentinel, .sentinel, .pinned], laidTests := true, laidLooks := .later }
def ExecTwiceUptoCardSaid : Prop := Claim7.holds Tryz.pinned (.plain (OpenSpec.upto execTwiceSpec)) execTwiceUptoCard

/-- THE SECOND FORM's CARD OF 'tapewrightlaw18.ExecSmall'. -/
def execSmallUptoCard : Claim7 := { stood := { row := execSmallUptoRow, standIns := [], harness := (true, "ef9c78801eefa640dac9c25ad683943695ffa61e6605dbd6d5ffb3da78267c4c"), looks := true }, kinds := [], alts := [], laidByText := true, laidKinds := [.data, .data, .data, .data, .handle, .sentinel, .sentinel, .pinned], laidTests := true, laidLooks := .later }
def ExecSmallUptoCardSaid : Prop := Claim7.holds Tryz.pinned (.plain (OpenSpec.upto execSmallSpec)) execSmallUptoCard

/-- THE SECOND FORM's CARD OF 'tapewrightlaw18.ExecKeeps'. -/
def execKeepsUptoCard : Claim7 := { stood := { row := execKeepsUptoRow, standIns := [], harness := (true, "ef9c78801eefa640dac9c25ad683943695ffa61e6605dbd6d5ffb3da78267c4c"), looks := true }, kinds := [], alts := [], laidByText := true, laidKinds := [.data, .data, .data, .data, .handle, .sentinel, .sentinel, .pinned], laidTests := true, laidLooks := .later }
def ExecKeepsUptoCardSaid : Prop := Claim7.holds Tryz.pinned (.plain (OpenSpec.upto execKeepsSpec)) execKeepsUptoCard
end Rows
end Go.Proofs.YtphnnbfgiomaoaaGreatDoor
