/-
  EvalAll holds for all arguments; no condition. Fold and Eval: FoldKeeps, EvalAll, EvalScale hold for all arguments; no condition.
-/
import Derived.Test.YtanlechpmkpbiaaGreatDoorKeep21
set_option linter.all false
namespace Go.Proofs.YtanlechpmkpbiaaGreatDoor
open Go Go.ChangeShapes Go.WideShapes Go.ChangeAt Go.RowKit Go.V
set_option maxRecDepth 100000
theorem aZl:Rows.evalAllRow.wfByText (OpenSpec.ofChange Rows.evalAllSpec)=true:=by kernel_rfl
theorem aP7:Go.Proofs.Tryz.prog.mainIs=some (Rows.evalAllCard.stood.harness.1,Rows.evalAllCard.stood.harness.2.toList):=by kernel_rfl
theorem aP6:false=Rows.evalAllRow.goesBy Go.Proofs.Tryz.prog:=by kernel_rfl
theorem evalAll_holds:Rows.EvalAllCardSaid:=
 Claim7.holds_tied_plain_at .later [] [.data,.handle,.sentinel,.sentinel,.pinned] true Rows.evalAllCard.stood.harness true bEb (λ_ h=>by cases h) aZl (λ_ h=>by cases h) evalAll_row_tie rfl ⟨rfl,rfl⟩ aP7 rfl
  (λf fn hf hfn=>by
    obtain rfl:f=6:=Option.some.inj ((show Go.Proofs.Tryz.prog.funcNamed "tapewright/tapewrightlaw12.EvalAll" =some 6 by kernel_rfl).symm.trans hf) |>.symm
    obtain rfl:fn=Go.Proofs.Tryz.f6:=(Option.some.inj (Tryz.func6.symm.trans hfn)).symm
    exact ⟨aVz,λj t ht=>by
     rw [Tryz.params6] at ht
     have hm:t∈[31,41]:=by simpa using Array.mem_of_getElem? ht
     have hall:([31,41].all λu=> !Go.Proofs.Tryz.prog.wantsStandIn u)=true:=by kernel_rfl
     exact (show Go.Proofs.Tryz.prog.wantsStandIn t=false by simpa using List.all_eq_true.1 hall t hm)⟩)
  aP6
end Go.Proofs.YtanlechpmkpbiaaGreatDoor
