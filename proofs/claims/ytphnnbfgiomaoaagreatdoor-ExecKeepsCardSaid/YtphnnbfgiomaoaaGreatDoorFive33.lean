/-
  ExecKeeps holds for all arguments; no condition. the statement.
-/
import Derived.Test.YtphnnbfgiomaoaaGreatDoorFive32
set_option linter.all false
namespace Go.Proofs.YtphnnbfgiomaoaaGreatDoor
open Go Go.ChangeShapes Go.WideShapes Go.ChangeAt Go.RowKit Go.V
set_option maxRecDepth 100000
theorem cRz:Rows.execKeepsRow.wfByText (OpenSpec.ofChange Rows.execKeepsSpec)=true:=by kernel_rfl
theorem cO3:Go.Proofs.Tryz.prog.mainIs=some (Rows.execKeepsCard.stood.harness.1,Rows.execKeepsCard.stood.harness.2.toList):=by kernel_rfl
theorem cO0:false=Rows.execKeepsRow.goesBy Go.Proofs.Tryz.prog:=by kernel_rfl
theorem execKeeps_holds:Rows.ExecKeepsCardSaid:=
 Claim7.holds_tied_plain_at .later [] [.data,.data,.data,.data,.handle,.sentinel,.sentinel,.pinned] true Rows.execKeepsCard.stood.harness true cTp (λ_ h=>by cases h) cRz (λ_ h=>by cases h) execKeeps_row_tie rfl ⟨rfl,rfl⟩ cO3 rfl
  (λf fn hf hfn=>by
    obtain rfl:f=13:=Option.some.inj ((show Go.Proofs.Tryz.prog.funcNamed "tapewright/tapewrightlaw18.ExecKeeps" =some 13 by kernel_rfl).symm.trans hf) |>.symm
    obtain rfl:fn=Go.Proofs.Tryz.f13:=(Option.some.inj (Tryz.func13.symm.trans hfn)).symm
    exact ⟨aVz,λj t ht=>by
     rw [Tryz.params13] at ht
     have hm:t∈[24,27,37]:=by simpa using Array.mem_of_getElem? ht
     have hall:([24,27,37].all λu=> !Go.Proofs.Tryz.prog.wantsStandIn u)=true:=by kernel_rfl
     exact (show Go.Proofs.Tryz.prog.wantsStandIn t=false by simpa using List.all_eq_true.1 hall t hm)⟩)
  cO0
end Go.Proofs.YtphnnbfgiomaoaaGreatDoor
