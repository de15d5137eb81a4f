/-
  CseKeeps holds for all arguments; no condition. the statement.
-/
import Derived.Test.YtphnnbfgiomaoaaGreatDoorFive24
set_option linter.all false
namespace Go.Proofs.YtphnnbfgiomaoaaGreatDoor
open Go Go.ChangeShapes Go.WideShapes Go.ChangeAt Go.RowKit Go.V
set_option maxRecDepth 100000
theorem cTc:Rows.cseKeepsRow.wfByText (OpenSpec.ofChange Rows.cseKeepsSpec)=true:=by kernel_rfl
theorem cPc:Go.Proofs.Tryz.prog.mainIs=some (Rows.cseKeepsCard.stood.harness.1,Rows.cseKeepsCard.stood.harness.2.toList):=by kernel_rfl
theorem cPb:false=Rows.cseKeepsRow.goesBy Go.Proofs.Tryz.prog:=by kernel_rfl
theorem cseKeeps_holds:Rows.CseKeepsCardSaid:=
 Claim7.holds_tied_plain_at .later [] [.data,.data,.data,.data,.handle,.sentinel,.sentinel,.pinned] true Rows.cseKeepsCard.stood.harness true cUb (λ_ h=>by cases h) cTc (λ_ h=>by cases h) cseKeeps_row_tie rfl ⟨rfl,rfl⟩ cPc rfl
  (λf fn hf hfn=>by
    obtain rfl:f=9:=Option.some.inj ((show Go.Proofs.Tryz.prog.funcNamed "tapewright/tapewrightlaw15.CseKeeps" =some 9 by kernel_rfl).symm.trans hf) |>.symm
    obtain rfl:fn=Go.Proofs.Tryz.f9:=(Option.some.inj (Tryz.func9.symm.trans hfn)).symm
    exact ⟨aVz,λj t ht=>by
     rw [Tryz.params9] at ht
     have hm:t∈[24,37]:=by simpa using Array.mem_of_getElem? ht
     have hall:([24,37].all λu=> !Go.Proofs.Tryz.prog.wantsStandIn u)=true:=by kernel_rfl
     exact (show Go.Proofs.Tryz.prog.wantsStandIn t=false by simpa using List.all_eq_true.1 hall t hm)⟩)
  cPb
end Go.Proofs.YtphnnbfgiomaoaaGreatDoor
