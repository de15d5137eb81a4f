/-
  ExecSmall holds for all arguments; no condition. the statement.
-/
import Derived.Test.YtphnnbfgiomaoaaGreatDoorFive37
set_option linter.all false
namespace Go.Proofs.YtphnnbfgiomaoaaGreatDoor
open Go Go.ChangeShapes Go.WideShapes Go.ChangeAt Go.RowKit Go.V
set_option maxRecDepth 100000
theorem cR0:Rows.execSmallRow.wfByText (OpenSpec.ofChange Rows.execSmallSpec)=true:=by kernel_rfl
theorem cO4:Go.Proofs.Tryz.prog.mainIs=some (Rows.execSmallCard.stood.harness.1,Rows.execSmallCard.stood.harness.2.toList):=by kernel_rfl
theorem cO1:false=Rows.execSmallRow.goesBy Go.Proofs.Tryz.prog:=by kernel_rfl
theorem execSmall_holds:Rows.ExecSmallCardSaid:=
 Claim7.holds_tied_plain_at .later [] [.data,.data,.data,.data,.handle,.sentinel,.sentinel,.pinned] true Rows.execSmallCard.stood.harness true cTq (λ_ h=>by cases h) cR0 (λ_ h=>by cases h) execSmall_row_tie rfl ⟨rfl,rfl⟩ cO4 rfl
  (λf fn hf hfn=>by
    obtain rfl:f=12:=Option.some.inj ((show Go.Proofs.Tryz.prog.funcNamed "tapewright/tapewrightlaw18.ExecSmall" =some 12 by kernel_rfl).symm.trans hf) |>.symm
    obtain rfl:fn=Go.Proofs.Tryz.f12:=(Option.some.inj (Tryz.func12.symm.trans hfn)).symm
    exact ⟨aVz,λj t ht=>by
     rw [Tryz.params12] at ht
     have hm:t∈[24,27]:=by simpa using Array.mem_of_getElem? ht
     have hall:([24,27].all λu=> !Go.Proofs.Tryz.prog.wantsStandIn u)=true:=by kernel_rfl
     exact (show Go.Proofs.Tryz.prog.wantsStandIn t=false by simpa using List.all_eq_true.1 hall t hm)⟩)
  cO1
end Go.Proofs.YtphnnbfgiomaoaaGreatDoor
