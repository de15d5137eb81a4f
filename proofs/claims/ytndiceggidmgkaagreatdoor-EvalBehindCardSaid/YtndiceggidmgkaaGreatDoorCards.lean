/-
  DERIVED. GIVEN WITH THE SEED: THE CARDS: each row of YtndiceggidmgkaaGreatDoorRows.lean that lists a variable, with what it lists TIED to the program's text (the seventh form; the later family's looks); each row that meets fmt, with fmt's text TOLD by the authors' own Lean function (tested against real Go, not proved from fmt's source: count such statements apart). THE CARD IS WHAT COUNTS. Prove the row's statement (the work); the ties are given (YtndiceggidmgkaaGreatDoorTie.lean); close each card by the builder's one call (the guide's Derived/Test/ToyasCard.lean, 'card_holds'). Laid BY PROGRAM, IN A SANDBOX (cutbox-door.mjs). By AI agents, Wed Nov 11 2026. No macro, syntax, notation, axiom, sorry.
-/
import Derived.Test.YtndiceggidmgkaaGreatDoorRows
import GoSem.ClaimSeven
namespace Go.Proofs.YtndiceggidmgkaaGreatDoor
namespace Rows

/-- THE TIED CARD OF 'tapewrightlaw14.FoldMakes'. -/
def foldMakesCard : Claim7 := { stood := { row := foldMakesRow, standIns := [], harness := (true, "bd40db7fe96e7c928c70fe1dc541fafae17c723d733ce7d07385259ce7787a1a"), looks := true }, kinds := [], alts := [], laidByText := true, laidKinds := [.data, .handle, .sentinel, .sentinel, .pinned], laidTests := true, laidLooks := .later }
def FoldMakesCardSaid : Prop := Claim7.holds Tryz.pinned (.plain (OpenSpec.ofChange foldMakesSpec)) foldMakesCard

/-- THE TIED CARD OF 'tapewrightlaw14.FoldAll'. -/
def foldAllCard : Claim7 := { stood := { row := foldAllRow, standIns := [], harness := (true, "bd40db7fe96e7c928c70fe1dc541fafae17c723d733ce7d07385259ce7787a1a"), looks := true }, kinds := [], alts := [], laidByText := true, laidKinds := [.data, .handle, .sentinel, .sentinel, .pinned], laidTests := true, laidLooks := .later }
def FoldAllCardSaid : Prop := Claim7.holds Tryz.pinned (.plain (OpenSpec.ofChange foldAllSpec)) foldAllCard

/-- THE TIED CARD OF 'tapewrightlaw14.FoldNames'. -/
def foldNamesCard : Claim7 := { stood := { row := foldNamesRow, standIns := [], harness := (true, "bd40db7fe96e7c928c70fe1dc541fafae17c723d733ce7d07385259ce7787a1a"), looks := true }, kinds := [], alts := [], laidByText := true, laidKinds := [.data, .handle, .sentinel, .sentinel, .pinned], laidTests := true, laidLooks := .later }
def FoldNamesCardSaid : Prop := Claim7.holds Tryz.pinned (.plain (OpenSpec.ofChange foldNamesSpec)) foldNamesCard

/-- THE TIED CARD OF 'tapewrightlaw14.FoldOnce'. -/
def foldOnceCard : Claim7 := { stood := { row := foldOnceRow, standIns := [], harness := (true, "bd40db7fe96e7c928c70fe1dc541fafae17c723d733ce7d07385259ce7787a1a"), looks := true }, kinds := [], alts := [], laidByText := true, laidKinds := [.data, .handle, .sentinel, .sentinel, .pinned], laidTests := true, laidLooks := .later }
def FoldOnceCardSaid : Prop := Claim7.holds Tryz.pinned (.plain (OpenSpec.ofChange foldOnceSpec)) foldOnceCard

/-- THE TIED CARD OF 'tapewrightlaw14.FoldLeaves'. -/
def foldLeavesCard : Claim7 := { stood := { row := foldLeavesRow, standIns := [], harness := (true, "bd40db7fe96e7c928c70fe1dc541fafae17c723d733ce7d07385259ce7787a1a"), looks := true }, kinds := [], alts := [], laidByText := true, laidKinds := [.data, .handle, .sentinel, .sentinel, .pinned], laidTests := true, laidLooks := .later }
def FoldLeavesCardSaid : Prop := Claim7.holds Tryz.pinned (.plain (OpenSpec.ofChange foldLeavesSpec)) foldLeavesCard

/-- THE TIED CARD OF 'tapewrightlaw12.EvalNode'. -/
def evalNodeCard : Claim7 := { stood := { row := evalNodeRow, standIns := [], harness := (true, "bd40db7fe96e7c928c70fe1dc541fafae17c723d733ce7d07385259ce7787a1a"), looks := true }, kinds := [], alts := [], laidByText := true, laidKinds := [.data, .handle, .sentinel, .sentinel, .pinned], laidTests := true, laidLooks := .later }
def EvalNodeCardSaid : Prop := Claim7.holds Tryz.pinned (.plain (OpenSpec.ofChange evalNodeSpec)) evalNodeCard

/-- THE TIED CARD OF 'tapewrightlaw12.EvalBehind'. -/
def evalBehindCard : Claim7 := { stood := { row := evalBehindRow, standIns := [], harness := (true, "bd40db7fe96e7c928c70fe1dc541fafae17c723d733ce7d07385259ce7787a1a"), looks := true }, kinds := [], alts := [], laidByText := true, laidKinds := [.data, .handle, .sentinel, .sentinel, .pinned], laidTests := true, laidLooks := .later }
def EvalBehindCardSaid : Prop := Claim7.holds Tryz.pinned (.plain (OpenSpec.ofChange evalBehindSpec)) evalBehindCard

/-- THE TIED CARD OF 'tapewrightlaw12.EvalScale'. -/
def evalScaleCard : Claim7 := { stood := { row := evalScaleRow, standIns := [], harness := (true, "bd40db7fe96e7c928c70fe1dc541fafae17c723d733ce7d07385259ce7787a1a"), looks := true }, kinds := [], alts := [], laidByText := true, laidKinds := [.data, .handle, .sentinel, .sentinel, .pinned], laidTests := true, laidLooks := .later }
def EvalScaleCardSaid : Prop := Claim7.holds Tryz.pinned (.plain (OpenSpec.ofChange evalScaleSpec)) evalScaleCard

/-- THE TIED CARD OF 'tapewrightlaw12.EvalOrder'. -/
def evalOrderCard : Claim7 := { stood := { row := evalOrderRow, standIns := [], harness := (true, "bd40db7fe96e7c928c70fe1dc541fafae17c723d733ce7d07385259ce7787a1a"), looks := true }, kinds := [], alts := [], laidByText := true, laidKinds := [.data, .handle, .sentinel, .sentinel, .pinned], laidTests := true, laidLooks := .later }
def EvalOrderCardSaid : Prop := Claim7.holds Tryz.pinned (.plain (OpenSpec.ofChange evalOrderSpec)) evalOrderCard

/-- THE TIED CARD OF 'tapewrightlaw12.EvalSums'. -/
def evalSumsCard : Claim7 := { stood := { row := evalSumsRow, standIns := [], harness := (true, "bd40db7fe96e7c928c70fe1dc541fafae17c723d733ce7d07385259ce7787a1a"), looks := true }, kinds := [], alts := [], laidByText := true, laidKinds := [.data, .handle, .sentinel, .sentinel, .pinned], laidTests := true, laidLooks := .later }
def EvalSumsCardSaid : Prop := Claim7.holds Tryz.pinned (.plain (OpenSpec.ofChange evalSumsSpec)) evalSumsCard

/-- THE TIED CARD OF 'tapewrightlaw14.FoldKeeps'. -/
def foldKeepsCard : Claim7 := { stood := { row := foldKeepsRow, standIns := [], harness := (true, "bd40db7fe96e7c928c70fe1dc541fafae17c723d733ce7d07385259ce7787a1a"), looks := true }, kinds := [], alts := [], laidByText := true, laidKinds := [.data, .handle, .sentinel, .sentinel, .pinned], laidTests := true, laidLooks := .later }
def FoldKeepsCardSaid : Prop := Claim7.holds Tryz.pinned (.plain (OpenSpec.ofChange foldKeepsSpec)) foldKeepsCard

/-- THE TIED CARD OF 'tapewrightlaw12.EvalAll'. -/
def evalAllCard : Claim7 := { stood := { row := evalAllRow, standIns := [], harness := (true, "bd40db7fe96e7c928c70fe1dc541fafae17c723d733ce7d07385259ce7787a1a"), looks := true }, kinds := [], alts := [], laidByText := true, laidKinds := [.data, .handle, .sentinel, .sentinel, .pinned], laidTests := true, laidLooks := .later }
def EvalAllCardSaid : Prop := Claim7.holds Tryz.pinned (.plain (OpenSpec.ofChange evalAllSpec)) evalAllCard

/-- THE SECOND FORM's CARD OF 'tapewrightlaw14.FoldMakes'. -/
def foldMakesUptoCard : Claim7 := { stood := { row := foldMakesUptoRow, standIns := [], harness := (true, "bd40db7fe96e7c928c70fe1dc541fafae17c723d733ce7d07385259ce7787a1a"), looks := true }, kinds := [], alts := [], laidByText := true, laidKinds := [.data, .handle, .sentinel, .sentinel, .pinned], laidTests := true, laidLooks := .later }
def FoldMakesUptoCardSaid : Prop := Claim7.holds Tryz.pinned (.plain (OpenSpec.upto foldMakesSpec)) foldMakesUptoCard

/-- THE SECOND FORM's CARD OF 'tapewrightlaw14.FoldAll'. -/
def foldAllUptoCard : Claim7 := { stood := { row := foldAllUptoRow, standIns := [], harness := (true, "bd40db7fe96e7c928c70fe1dc541fafae17c723d733ce7d07385259ce7787a1a"), looks := true }, kinds := [], alts := [], laidByText := true, laidKinds := [.data, .handle, .sentinel, .sentinel, .pinned], laidTests := true, laidLooks := .later }
def FoldAllUptoCardSaid : Prop := Claim7.holds Tryz.pinned (.plain (OpenSpec.upto foldAllSpec)) foldAllUptoCard

/-- THE SECOND FORM's CARD OF 'tapewrightlaw14.FoldNames'. -/
def foldNamesUptoCard : Claim7 := { stood := { row := foldNamesUptoRow, standIns := [], harness := (true, "bd40db7fe96e7c928c70fe1dc541fafae17c723d733ce7d07385259ce7787a1a"), looks := true }, kinds := [], alts := [], laidByText := true, laidKinds := [.data, .handle, .sentinel, .sentinel, .pinned], laidTests := true, laidLooks := .later }
def FoldNamesUptoCardSaid : Prop := Claim7.holds Tryz.pinned (.plain (OpenSpec.upto foldNamesSpec)) foldNamesUptoCard

/-- THE SECOND FORM's CARD OF 'tapewrightlaw14.FoldOnce'. -/
def foldOnceUptoCard : Claim7 := { stood := { row := foldOnceUptoRow, standIns := [], harness := (true, "bd40db7fe96e7c928c70fe1dc541fafae17c723d733ce7d07385259ce7787a1a"), looks := true }, kinds := [], alts := [], laidByText := true, laidKinds := [.data, .handle, .sentinel, .sentinel, .pinned], laidTests := true, laidLooks := .later }
def FoldOnceUptoCardSaid : Prop := Claim7.holds Tryz.pinned (.plain (OpenSpec.upto foldOnceSpec)) foldOnceUptoCard

/-- THE SECOND FORM's CARD OF 'tapewrightlaw14.FoldLeaves'. -/
def foldLeavesUptoCard : Claim7 := { stood := { row := foldLeavesUptoRow, standIns := [], harness := (true, "bd40db7fe96e7c928c70fe1dc541fafae17c723d733ce7d07385259ce7787a1a"), looks := true }, kinds := [], alts := [], laidByText := true, laidKinds := [.data, .handle, .sentinel, .sentinel, .pinned], laidTests := true, laidLooks := .later }
def FoldLeavesUptoCardSaid : Prop := Claim7.holds Tryz.pinned (.plain (OpenSpec.upto foldLeavesSpec)) foldLeavesUptoCard

/-- THE SECOND FORM's CARD OF 'tapewrightlaw12.EvalNode'. -/
def evalNodeUptoCard : Claim7 := { stood := { row := evalNodeUptoRow, standIns := [], harness := (true, "bd40db7fe96e7c928c70fe1dc541fafae17c723d733ce7d07385259ce7787a1a"), looks := true }, kinds := [], alts := [], laidByText := true, laidKinds := [.data, .handle, .sentinel, .sentinel, .pinned], laidTests := true, laidLooks := .later }
def EvalNodeUptoCardSaid : Prop := Claim7.holds Tryz.pinned (.plain (OpenSpec.upto evalNodeSpec)) evalNodeUptoCard

/-- THE SECOND FORM's CARD OF 'tapewrightlaw12.EvalBehind'. -/
def evalBehindUptoCard : Claim7 := { stood := { row := evalBehindUptoRow, standIns := [], harness := (true, "bd40db7fe96e7c928c70fe1dc541fafae17c723d733ce7d07385259ce7787a1a"), looks := true }, kinds := [], alts := [], laidByText := true, laidKinds := [.data, .handle, .sentinel, .sentinel, .pinned], laidTests := true, laidLooks := .later }
def EvalBehindUptoCardSaid : Prop := Claim7.holds Tryz.pinned (.plain (OpenSpec.upto evalBehindSpec)) evalBehindUptoCard

/-- THE SECOND FORM's CARD OF 'tapewrightlaw12.EvalScale'. -/
def evalScaleUptoCard : Claim7 := { stood := { row := evalScaleUptoRow, standIns := [], harness := (true, "bd40db7fe96e7c928c70fe1dc541fafae17c723d733ce7d07385259ce7787a1a"), looks := true }, kinds := [], alts := [], laidByText := true, laidKinds := [.data, .handle, .sentinel, .sentinel, .pinned], laidTests := true, laidLooks := .later }
def EvalScaleUptoCardSaid : Prop := Claim7.holds Tryz.pinned (.plain (OpenSpec.upto evalScaleSpec)) evalScaleUptoCard

/-- THE SECOND FORM's CARD OF 'tapewrightlaw12.EvalOrder'. -/
def evalOrderUptoCard : Claim7 := { stood := { row := evalOrderUptoRow, standIns := [], harness := (true, "bd40db7fe96e7c928c70fe1dc541fafae17c723d733ce7d07385259ce7787a1a"), looks := true }, kinds := [], alts := [], laidByText := true, laidKinds := [.data, .handle, .sentinel, .sentinel, .pinned], laidTests := true, laidLooks := .later }
def EvalOrderUptoCardSaid : Prop := Claim7.holds Tryz.pinned (.plain (OpenSpec.upto evalOrderSpec)) evalOrderUptoCard

/-- THE SECOND FORM's CARD OF 'tapewrightlaw12.EvalSums'. -/
def evalSumsUptoCard : Claim7 := { stood := { row := evalSumsUptoRow, standIns := [], harness := (true, "bd40db7fe96e7c928c70fe1dc541fafae17c723d733ce7d07385259ce7787a1a"), looks := true }, kinds := [], alts := [], laidByText := true, laidKinds := [.data, .handle, .sentinel, .sentinel, .pinned], laidTests := true, laidLooks := .later }
def EvalSumsUptoCardSaid : Prop := Claim7.holds Tryz.pinned (.plain (OpenSpec.upto evalSumsSpec)) evalSumsUptoCard

/-- THE SECOND FORM's CARD OF 'tapewrightlaw14.FoldKeeps'. -/
def foldKeepsUptoCard : Claim7 := { stood := { row := foldKeepsUptoRow, standIns := [], harness := (true, "bd40db7fe96e7c928c70fe1dc541fafae17c723d733ce7d07385259ce7787a1a"), looks := true }, kinds := [], alts := [], laidByText := true, laidKinds := [.data, .handle, .sentinel, .sentinel, .pinned], laidTests := true, laidLooks := .later }
def FoldKeepsUptoCardSaid : Prop := Claim7.holds Tryz.pinned (.plain (OpenSpec.upto foldKeepsSpec)) foldKeepsUptoCard

/-- THE SECOND FORM's CARD OF 'tapewrightlaw12.EvalAll'. -/
def evalAllUptoCard : Claim7 := { stood := { row := evalAllUptoRow, standIns := [], harness := (true, "bd40db7fe96e7c928c70fe1dc541fafae17c723d733ce7d07385259ce7787a1a"), looks := true }, kinds := [], alts := [], laidByText := true, laidKinds := [.data, .handle, .sentinel, .sentinel, .pinned], laidTests := true, laidLooks := .later }
def EvalAllUptoCardSaid : Prop := Claim7.holds Tryz.pinned (.plain (OpenSpec.upto evalAllSpec)) evalAllUptoCard
end Rows
end Go.Proofs.YtndiceggidmgkaaGreatDoor
