/-
  ExecRuns holds for all arguments; no condition. Exec: ExecRuns, ExecSteps, ExecLoss hold for all arguments; no condition.
-/
import Derived.Test.YtanlechpmkpbiaaGreatDoorExec9
set_option linter.all false
namespace Go.Proofs.YtanlechpmkpbiaaGreatDoor
open Go Go.ChangeShapes Go.WideShapes Go.ChangeAt Go.RowKit Go.V
set_option maxRecDepth 100000
theorem cLc:Rows.execRunsRow.wfByText (OpenSpec.ofChange Rows.execRunsSpec)=true:=by kernel_rfl
theorem cI9:Go.Proofs.Tryz.prog.mainIs=some (Rows.execRunsCard.stood.harness.1,Rows.execRunsCard.stood.harness.2.toList):=by kernel_rfl
theorem cI7:false=Rows.execRunsRow.goesBy Go.Proofs.Tryz.prog:=by kernel_rfl
theorem execRuns_holds:Rows.ExecRunsCardSaid:=
 Claim7.holds_tied_plain_at .later [] [.data,.handle,.sentinel,.sentinel,.pinned] true Rows.execRunsCard.stood.harness true cL3 (λ_ h=>by cases h) cLc (λ_ h=>by cases h) execRuns_row_tie rfl ⟨rfl,rfl⟩ cI9 rfl
  (λf fn hf hfn=>by
    obtain rfl:f=8:=Option.some.inj ((show Go.Proofs.Tryz.prog.funcNamed "tapewright/tapewrightlaw18.ExecRuns" =some 8 by kernel_rfl).symm.trans hf) |>.symm
    obtain rfl:fn=Go.Proofs.Tryz.f8:=(Option.some.inj (Tryz.func8.symm.trans hfn)).symm
    exact ⟨aVz,λj t ht=>by
     rw [Tryz.params8] at ht
     have hm:t∈[31,22,41,3]:=by simpa using Array.mem_of_getElem? ht
     have hall:([31,22,41,3].all λu=> !Go.Proofs.Tryz.prog.wantsStandIn u)=true:=by kernel_rfl
     exact (show Go.Proofs.Tryz.prog.wantsStandIn t=false by simpa using List.all_eq_true.1 hall t hm)⟩)
  cI7
end Go.Proofs.YtanlechpmkpbiaaGreatDoor
