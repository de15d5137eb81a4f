/-
  ExecTwice holds for all arguments; no condition. the statement.
-/
import Derived.Test.YtphnnbfgiomaoaaGreatDoorFive34
set_option linter.all false
namespace Go.Proofs.YtphnnbfgiomaoaaGreatDoor
open Go Go.ChangeShapes Go.WideShapes Go.ChangeAt Go.RowKit Go.V
set_option maxRecDepth 100000
theorem cR1:Rows.execTwiceRow.wfByText (OpenSpec.ofChange Rows.execTwiceSpec)=true:=by kernel_rfl
theorem cO5:Go.Proofs.Tryz.prog.mainIs=some (Rows.execTwiceCard.stood.harness.1,Rows.execTwiceCard.stood.harness.2.toList):=by kernel_rfl
theorem cO2:false=Rows.execTwiceRow.goesBy Go.Proofs.Tryz.prog:=by kernel_rfl
theorem execTwice_holds:Rows.ExecTwiceCardSaid:=
 Claim7.holds_tied_plain_at .later [] [.data,.data,.data,.data,.handle,.sentinel,.sentinel,.pinned] true Rows.execTwiceCard.stood.harness true cTr (λ_ h=>by cases h) cR1 (λ_ h=>by cases h) execTwice_row_tie rfl ⟨rfl,rfl⟩ cO5 rfl
  (λf fn hf hfn=>by
    obtain rfl:f=11:=Option.some.inj ((show Go.Proofs.Tryz.prog.funcNamed "tapewright/tapewrightlaw18.ExecTwice" =some 11 by kernel_rfl).symm.trans hf) |>.symm
    obtain rfl:fn=Go.Proofs.Tryz.f11:=(Option.some.inj (Tryz.func11.symm.trans hfn)).symm
    exact ⟨aVz,λj t ht=>by
     rw [Tryz.params11] at ht
     have hm:t∈[24,27,37]:=by simpa using Array.mem_of_getElem? ht
     have hall:([24,27,37].all λu=> !Go.Proofs.Tryz.prog.wantsStandIn u)=true:=by kernel_rfl
     exact (show Go.Proofs.Tryz.prog.wantsStandIn t=false by simpa using List.all_eq_true.1 hall t hm)⟩)
  cO2
end Go.Proofs.YtphnnbfgiomaoaaGreatDoor
