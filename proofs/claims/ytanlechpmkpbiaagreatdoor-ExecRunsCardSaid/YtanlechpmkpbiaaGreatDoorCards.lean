/-
  DERIVED. GIVEN WITH THE SEED: THE CARDS: each row of YtanlechpmkpbiaaGreatDoorRows.lean that lists a variable, with what it lists TIED to the program's text (the seventh form; the later family's looks); each row that meets fmt, with fmt's text TOLD by the authors' own Lean function (tested against real Go, not proved from fmt's source: count such statements apart). THE CARD IS WHAT COUNTS. Prove the row's statement (the work); the ties are given (YtanlechpmkpbiaaGreatDoorTie.lean); close each card by the builder's one call (the guide's Derived/Test/ToyasCard.lean, 'card_holds'). Laid BY PROGRAM, IN A SANDBOX (cutbox-door.mjs). By AI agents, Wed Nov 11 2026. No macro, syntax, notation, axiom, sorry.
-/
import Derived.Test.YtanlechpmkpbiaaGreatDoorRows
import GoSem.ClaimSeven
namespace Go.Proofs.YtanlechpmkpbiaaGreatDoor
namespace Rows

/-- THE TIED CARD OF 'tapewrightlaw14.FoldOnce'. -/
def foldOnceCard : Claim7 := { stood := { row := foldOnceRow, standIns := [], harness := (true, "93af2ee0703fa7fdee2957e23d71967d5e79514ca66e453a1ba1ec6ebc878274"), looks := true }, kinds := [], alts := [], laidByText := true, laidKinds := [.data, .handle, .sentinel, .sentinel, .pinned], laidTests := true, laidLooks := .later }
def FoldOnceCardSaid : Prop := Claim7.holds Tryz.pinned (.plain (OpenSpec.ofChange foldOnceSpec)) foldOnceCard

/-- THE TIED CARD OF 'tapewrightlaw12.EvalScale'. -/
def evalScaleCard : Claim7 := { stood := { row := evalScaleRow, standIns := [], harness := (true, "93af2ee0703fa7fdee2957e23d71967d5e79514ca66e453a1ba1ec6ebc878274"), looks := true }, kinds := [], alts := [], laidByText := true, laidKinds := [.data, .handle, .sentinel, .sentinel, .pinned], laidTests := true, laidLooks := .later }
def EvalScaleCardSaid : Prop := Claim7.holds Tryz.pinned (.plain (OpenSpec.ofChange evalScaleSpec)) evalScaleCard

/-- THE TIED CARD OF 'tapewrightlaw14.FoldKeeps'. -/
def foldKeepsCard : Claim7 := { stood := { row := foldKeepsRow, standIns := [], harness := (true, "93af2ee0703fa7fdee2957e23d71967d5e79514ca66e453a1ba1ec6ebc878274"), looks := true }, kinds := [], alts := [], laidByText := true, laidKinds := [.data, .handle, .sentinel, .sentinel, .pinned], laidTests := true, laidLooks := .later }
def FoldKeepsCardSaid : Prop := Claim7.holds Tryz.pinned (.plain (OpenSpec.ofChange foldKeepsSpec)) foldKeepsCard

/-- THE TIED CARD OF 'tapewrightlaw12.EvalAll'. -/
def evalAllCard : Claim7 := { stood := { row := evalAllRow, standIns := [], harness := (true, "93af2ee0703fa7fdee2957e23d71967d5e79514ca66e453a1ba1ec6ebc878274"), looks := true }, kinds := [], alts := [], laidByText := true, laidKinds := [.data, .handle, .sentinel, .sentinel, .pinned], laidTests := true, laidLooks := .later }
def EvalAllCardSaid : Prop := Claim7.holds Tryz.pinned (.plain (OpenSpec.ofChange evalAllSpec)) evalAllCard

/-- THE TIED CARD OF 'tapewrightlaw16.DeadKeeps'. -/
def deadKeepsCard : Claim7 := { stood := { row := deadKeepsRow, standIns := [], harness := (true, "93af2ee0703fa7fdee2957e23d71967d5e79514ca66e453a1ba1ec6ebc878274"), looks := true }, kinds := [], alts := [], laidByText := true, laidKinds := [.data, .handle, .sentinel, .sentinel, .pinned], laidTests := true, laidLooks := .later }
def DeadKeepsCardSaid : Prop := Claim7.holds Tryz.pinned (.plain (OpenSpec.ofChange deadKeepsSpec)) deadKeepsCard

/-- THE TIED CARD OF 'tapewrightlaw18.ExecRuns'. -/
def execRunsCard : Claim7 := { stood := { row := execRunsRow, standIns := [], harness := (true, "93af2ee0703fa7fdee2957e23d71967d5e79514ca66e453a1ba1ec6ebc878274"), looks := true }, kinds := [], alts := [], laidByText := true, laidKinds := [.data, .handle, .sentinel, .sentinel, .pinned], laidTests := true, laidLooks := .later }
def ExecRunsCardSaid : Prop := Claim7.holds Tryz.pinned (.plain (OpenSpec.ofChange execRunsSpec)) execRunsCard

/-- THE TIED CARD OF 'tapewrightlaw18.ExecSteps'. -/
def execStepsCard : Claim7 := { stood := { row := execStepsRow, standIns := [], harness := (true, "93af2ee0703fa7fdee2957e23d71967d5e79514ca66e453a1ba1ec6ebc878274"), looks := true }, kinds := [], alts := [], laidByText := true, laidKinds := [.data, .handle, .sentinel, .sentinel, .pinned], laidTests := true, laidLooks := .later }
def ExecStepsCardSaid : Prop := Claim7.holds Tryz.pinned (.plain (OpenSpec.ofChange execStepsSpec)) execStepsCard

/-- THE TIED CARD OF 'tapewrightlaw18.ExecLoss'. -/
def execLossCard : Claim7 := { stood := { row := execLossRow, standIns := [], harness := (true, "93af2ee0703fa7fdee2957e23d71967d5e79514ca66e453a1ba1ec6ebc878274"), looks := true }, kinds := [], alts := [], laidByText := true, laidKinds := [.data, .handle, .sentinel, .sentinel, .pinned], laidTests := true, laidLooks := .later }
def ExecLossCardSaid : Prop := Claim7.holds Tryz.pinned (.plain (OpenSpec.ofChange execLossSpec)) execLossCard

/-- THE SECOND FORM's CARD OF 'tapewrightlaw14.FoldOnce'. -/
def foldOnceUptoCard : Claim7 := { stood := { row := foldOnceUptoRow, standIns := [], harness := (true, "93af2ee0703fa7fdee2957e23d71967d5e79514ca66e453a1ba1ec6ebc878274"), looks := true }, kinds := [], alts := [], laidByText := true, laidKinds := [.data, .handle, .sentinel, .sentinel, .pinned], laidTests := true, laidLooks := .later }
def FoldOnceUptoCardSaid : Prop := Claim7.holds Tryz.pinned (.plain (OpenSpec.upto foldOnceSpec)) foldOnceUptoCard

/-- THE SECOND FORM's CARD OF 'tapewrightlaw12.EvalScale'. -/
def evalScaleUptoCard : Claim7 := { stood := { row := evalScaleUptoRow, standIns := [], harness := (true, "93af2ee0703fa7fdee2957e23d71967d5e79514ca66e453a1ba1ec6ebc878274"), looks := true }, kinds := [], alts := [], laidByText := true, laidKinds := [.data, .handle, .sentinel, .sentinel, .pinned], laidTests := true, laidLooks := .later }
def EvalScaleUptoCardSaid : Prop := Claim7.holds Tryz.pinned (.plain (OpenSpec.upto evalScaleSpec)) evalScaleUptoCard

/-- THE SECOND FORM's CARD OF 'tapewrightlaw14.FoldKeeps'. -/
def foldKeepsUptoCard : Claim7 := { stood := { row := foldKeepsUptoRow, standIns := [], harness := (true, "93af2ee0703fa7fdee2957e23d71967d5e79514ca66e453a1ba1ec6ebc878274"), looks := true }, kinds := [], alts := [], laidByText := true, laidKinds := [.data, .handle, .sentinel, .sentinel, .pinned], laidTests := true, laidLooks := .later }
def FoldKeepsUptoCardSaid : Prop := Claim7.holds Tryz.pinned (.plain (OpenSpec.upto foldKeepsSpec)) foldKeepsUptoCard

/-- THE SECOND FORM's CARD OF 'tapewrightlaw12.EvalAll'. -/
def evalAllUptoCard : Claim7 := { stood := { row := evalAllUptoRow, standIns := [], harness := (true, "93af2ee0703fa7fdee2957e23d71967d5e79514ca66e453a1ba1ec6ebc878274"), looks := true }, kinds := [], alts := [], laidByText := true, laidKinds := [.data, .handle, .sentinel, .sentinel, .pinned], laidTests := true, laidLooks := .later }
def EvalAllUptoCardSaid : Prop := Claim7.holds Tryz.pinned (.plain (OpenSpec.upto evalAllSpec)) evalAllUptoCard

/-- THE SECOND FORM's CARD OF 'tapewrightlaw16.DeadKeeps'. -/
def deadKeepsUptoCard : Claim7 := { stood := { row := deadKeepsUptoRow, standIns := [], harness := (true, "93af2ee0703fa7fdee2957e23d71967d5e79514ca66e453a1ba1ec6ebc878274"), looks := true }, kinds := [], alts := [], laidByText := true, laidKinds := [.data, .handle, .sentinel, .sentinel, .pinned], laidTests := true, laidLooks := .later }
def DeadKeepsUptoCardSaid : Prop := Claim7.holds Tryz.pinned (.plain (OpenSpec.upto deadKeepsSpec)) deadKeepsUptoCard

/-- THE SECOND FORM's CARD OF 'tapewrightlaw18.ExecRuns'. -/
def execRunsUptoCard : Claim7 := { stood := { row := execRunsUptoRow, standIns := [], harness := (true, "93af2ee0703fa7fdee2957e23d71967d5e79514ca66e453a1ba1ec6ebc878274"), looks := true }, kinds := [], alts := [], laidByText := true, laidKinds := [.data, .handle, .sentinel, .sentinel, .pinned], laidTests := true, laidLooks := .later }
def ExecRunsUptoCardSaid : Prop := Claim7.holds Tryz.pinned (.plain (OpenSpec.upto execRunsSpec)) execRunsUptoCard

/-- THE SECOND FORM's CARD OF 'tapewrightlaw18.ExecSteps'. -/
def execStepsUptoCard : Claim7 := { stood := { row := execStepsUptoRow, standIns := [], harness := (true, "93af2ee0703fa7fdee2957e23d71967d5e79514ca66e453a1ba1ec6ebc878274"), looks := true }, kinds := [], alts := [], laidByText := true, laidKinds := [.data, .handle, .sentinel, .sentinel, .pinned], laidTests := true, laidLooks := .later }
def ExecStepsUptoCardSaid : Prop := Claim7.holds Tryz.pinned (.plain (OpenSpec.upto execStepsSpec)) execStepsUptoCard

/-- THE SECOND FORM's CARD OF 'tapewrightlaw18.ExecLoss'. -/
def execLossUptoCard : Claim7 := { stood := { row := execLossUptoRow, standIns := [], harness := (true, "93af2ee0703fa7fdee2957e23d71967d5e79514ca66e453a1ba1ec6ebc878274"), looks := true }, kinds := [], alts := [], laidByText := true, laidKinds := [.data, .handle, .sentinel, .sentinel, .pinned], laidTests := true, laidLooks := .later }
def ExecLossUptoCardSaid : Prop := Claim7.holds Tryz.pinned (.plain (OpenSpec.upto execLossSpec)) execLossUptoCard
end Rows
end Go.Proofs.YtanlechpmkpbiaaGreatDoor
