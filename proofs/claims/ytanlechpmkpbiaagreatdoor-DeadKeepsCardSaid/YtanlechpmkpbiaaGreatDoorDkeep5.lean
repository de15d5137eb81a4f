/-
  DeadKeeps holds for all arguments; no condition.
-/
import Derived.Test.YtanlechpmkpbiaaGreatDoorDkeep4
set_option linter.all false
namespace Go.Proofs.YtanlechpmkpbiaaGreatDoor
open Go Go.ChangeShapes Go.WideShapes Go.ChangeAt Go.RowKit Go.V
set_option maxRecDepth 100000
theorem cF3:Rows.deadKeepsRow.wfByText (OpenSpec.ofChange Rows.deadKeepsSpec)=true:=by kernel_rfl
theorem cE5:Go.Proofs.Tryz.prog.mainIs=some (Rows.deadKeepsCard.stood.harness.1,Rows.deadKeepsCard.stood.harness.2.toList):=by kernel_rfl
theorem cE4:false=Rows.deadKeepsRow.goesBy Go.Proofs.Tryz.prog:=by kernel_rfl
theorem deadKeeps_holds:Rows.DeadKeepsCardSaid:=
 Claim7.holds_tied_plain_at .later [] [.data,.handle,.sentinel,.sentinel,.pinned] true Rows.deadKeepsCard.stood.harness true cGj (λ_ h=>by cases h) cF3 (λ_ h=>by cases h) deadKeeps_row_tie rfl ⟨rfl,rfl⟩ cE5 rfl
  (λf fn hf hfn=>by
    obtain rfl:f=7:=Option.some.inj ((show Go.Proofs.Tryz.prog.funcNamed "tapewright/tapewrightlaw16.DeadKeeps" =some 7 by kernel_rfl).symm.trans hf) |>.symm
    obtain rfl:fn=Go.Proofs.Tryz.f7:=(Option.some.inj (Tryz.func7.symm.trans hfn)).symm
    exact ⟨aVz,λj t ht=>by
     rw [Tryz.params7] at ht
     have hm:t∈[31,22,41]:=by simpa using Array.mem_of_getElem? ht
     have hall:([31,22,41].all λu=> !Go.Proofs.Tryz.prog.wantsStandIn u)=true:=by kernel_rfl
     exact (show Go.Proofs.Tryz.prog.wantsStandIn t=false by simpa using List.all_eq_true.1 hall t hm)⟩)
  cE4
end Go.Proofs.YtanlechpmkpbiaaGreatDoor
