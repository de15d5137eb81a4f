/-
  ExecLoss holds for all arguments; no condition. Exec: ExecRuns, ExecSteps, ExecLoss hold for all arguments; no condition.
-/
import Derived.Test.YtanlechpmkpbiaaGreatDoorExec17
set_option linter.all false
namespace Go.Proofs.YtanlechpmkpbiaaGreatDoor
open Go Go.ChangeShapes Go.WideShapes Go.ChangeAt Go.RowKit Go.V
set_option maxRecDepth 100000
theorem cLb:Rows.execLossRow.wfByText (OpenSpec.ofChange Rows.execLossSpec)=true:=by kernel_rfl
theorem cI8:Go.Proofs.Tryz.prog.mainIs=some (Rows.execLossCard.stood.harness.1,Rows.execLossCard.stood.harness.2.toList):=by kernel_rfl
theorem cI6:false=Rows.execLossRow.goesBy Go.Proofs.Tryz.prog:=by kernel_rfl
theorem execLoss_holds:Rows.ExecLossCardSaid:=
 Claim7.holds_tied_plain_at .later [] [.data,.handle,.sentinel,.sentinel,.pinned] true Rows.execLossCard.stood.harness true cL2 (λ_ h=>by cases h) cLb (λ_ h=>by cases h) execLoss_row_tie rfl ⟨rfl,rfl⟩ cI8 rfl
  (λf fn hf hfn=>by
    obtain rfl:f=10:=Option.some.inj ((show Go.Proofs.Tryz.prog.funcNamed "tapewright/tapewrightlaw18.ExecLoss" =some 10 by kernel_rfl).symm.trans hf) |>.symm
    obtain rfl:fn=Go.Proofs.Tryz.f10:=(Option.some.inj (Tryz.func10.symm.trans hfn)).symm
    exact ⟨aVz,λj t ht=>by
     rw [Tryz.params10] at ht
     have hm:t∈[31,22,41]:=by simpa using Array.mem_of_getElem? ht
     have hall:([31,22,41].all λu=> !Go.Proofs.Tryz.prog.wantsStandIn u)=true:=by kernel_rfl
     exact (show Go.Proofs.Tryz.prog.wantsStandIn t=false by simpa using List.all_eq_true.1 hall t hm)⟩)
  cI6
end Go.Proofs.YtanlechpmkpbiaaGreatDoor
