/-
  EvalScale holds for all arguments; no condition. Fold and Eval: FoldKeeps, EvalAll, EvalScale hold for all arguments; no condition.
-/
import Derived.Test.YtanlechpmkpbiaaGreatDoorKeep26
set_option linter.all false
namespace Go.Proofs.YtanlechpmkpbiaaGreatDoor
open Go Go.ChangeShapes Go.WideShapes Go.ChangeAt Go.RowKit Go.V
set_option maxRecDepth 100000
theorem aSw:Rows.evalScaleRow.wfByText (OpenSpec.ofChange Rows.evalScaleSpec)=true:=by kernel_rfl
theorem aNb:Go.Proofs.Tryz.prog.mainIs=some (Rows.evalScaleCard.stood.harness.1,Rows.evalScaleCard.stood.harness.2.toList):=by kernel_rfl
theorem aM9:false=Rows.evalScaleRow.goesBy Go.Proofs.Tryz.prog:=by kernel_rfl
theorem evalScale_holds:Rows.EvalScaleCardSaid:=
 Claim7.holds_tied_plain_at .later [] [.data,.handle,.sentinel,.sentinel,.pinned] true Rows.evalScaleCard.stood.harness true aXg (λ_ h=>by cases h) aSw (λ_ h=>by cases h) evalScale_row_tie rfl ⟨rfl,rfl⟩ aNb rfl
  (λf fn hf hfn=>by
    obtain rfl:f=4:=Option.some.inj ((show Go.Proofs.Tryz.prog.funcNamed "tapewright/tapewrightlaw12.EvalScale" =some 4 by kernel_rfl).symm.trans hf) |>.symm
    obtain rfl:fn=Go.Proofs.Tryz.f4:=(Option.some.inj (Tryz.func4.symm.trans hfn)).symm
    exact ⟨aVz,λj t ht=>by
     rw [Tryz.params4] at ht
     have hm:t∈[31,41,9]:=by simpa using Array.mem_of_getElem? ht
     have hall:([31,41,9].all λu=> !Go.Proofs.Tryz.prog.wantsStandIn u)=true:=by kernel_rfl
     exact (show Go.Proofs.Tryz.prog.wantsStandIn t=false by simpa using List.all_eq_true.1 hall t hm)⟩)
  aM9
end Go.Proofs.YtanlechpmkpbiaaGreatDoor
