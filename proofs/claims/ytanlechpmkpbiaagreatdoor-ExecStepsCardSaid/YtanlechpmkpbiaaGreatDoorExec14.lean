/-
  ExecSteps holds for all arguments; no condition. Exec: ExecRuns, ExecSteps, ExecLoss hold for all arguments; no condition.
-/
import Derived.Test.YtanlechpmkpbiaaGreatDoorExec13
set_option linter.all false
namespace Go.Proofs.YtanlechpmkpbiaaGreatDoor
open Go Go.ChangeShapes Go.WideShapes Go.ChangeAt Go.RowKit Go.V
set_option maxRecDepth 100000
theorem cJ1:Rows.execStepsRow.wfByText (OpenSpec.ofChange Rows.execStepsSpec)=true:=by kernel_rfl
theorem cI3:Go.Proofs.Tryz.prog.mainIs=some (Rows.execStepsCard.stood.harness.1,Rows.execStepsCard.stood.harness.2.toList):=by kernel_rfl
theorem cI2:false=Rows.execStepsRow.goesBy Go.Proofs.Tryz.prog:=by kernel_rfl
theorem execSteps_holds:Rows.ExecStepsCardSaid:=
 Claim7.holds_tied_plain_at .later [] [.data,.handle,.sentinel,.sentinel,.pinned] true Rows.execStepsCard.stood.harness true cLr (λ_ h=>by cases h) cJ1 (λ_ h=>by cases h) execSteps_row_tie rfl ⟨rfl,rfl⟩ cI3 rfl
  (λf fn hf hfn=>by
    obtain rfl:f=9:=Option.some.inj ((show Go.Proofs.Tryz.prog.funcNamed "tapewright/tapewrightlaw18.ExecSteps" =some 9 by kernel_rfl).symm.trans hf) |>.symm
    obtain rfl:fn=Go.Proofs.Tryz.f9:=(Option.some.inj (Tryz.func9.symm.trans hfn)).symm
    exact ⟨aVz,λj t ht=>by
     rw [Tryz.params9] at ht
     have hm:t∈[31,22,41,5]:=by simpa using Array.mem_of_getElem? ht
     have hall:([31,22,41,5].all λu=> !Go.Proofs.Tryz.prog.wantsStandIn u)=true:=by kernel_rfl
     exact (show Go.Proofs.Tryz.prog.wantsStandIn t=false by simpa using List.all_eq_true.1 hall t hm)⟩)
  cI2
end Go.Proofs.YtanlechpmkpbiaaGreatDoor
