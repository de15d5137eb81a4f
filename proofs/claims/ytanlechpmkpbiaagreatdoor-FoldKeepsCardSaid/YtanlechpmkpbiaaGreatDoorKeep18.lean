/-
  FoldKeeps holds for all arguments; no condition. Fold and Eval: FoldKeeps, EvalAll, EvalScale hold for all arguments; no condition.
-/
import Derived.Test.YtanlechpmkpbiaaGreatDoorKeep17
set_option linter.all false
namespace Go.Proofs.YtanlechpmkpbiaaGreatDoor
open Go Go.ChangeShapes Go.WideShapes Go.ChangeAt Go.RowKit Go.V
set_option maxRecDepth 100000
theorem aSx:Rows.foldKeepsRow.wfByText (OpenSpec.ofChange Rows.foldKeepsSpec)=true:=by kernel_rfl
theorem aNc:Go.Proofs.Tryz.prog.mainIs=some (Rows.foldKeepsCard.stood.harness.1,Rows.foldKeepsCard.stood.harness.2.toList):=by kernel_rfl
theorem aNa:false=Rows.foldKeepsRow.goesBy Go.Proofs.Tryz.prog:=by kernel_rfl
theorem foldKeeps_holds:Rows.FoldKeepsCardSaid:=
 Claim7.holds_tied_plain_at .later [] [.data,.handle,.sentinel,.sentinel,.pinned] true Rows.foldKeepsCard.stood.harness true aXh (λ_ h=>by cases h) aSx (λ_ h=>by cases h) foldKeeps_row_tie rfl ⟨rfl,rfl⟩ aNc rfl
  (λf fn hf hfn=>by
    obtain rfl:f=5:=Option.some.inj ((show Go.Proofs.Tryz.prog.funcNamed "tapewright/tapewrightlaw14.FoldKeeps" =some 5 by kernel_rfl).symm.trans hf) |>.symm
    obtain rfl:fn=Go.Proofs.Tryz.f5:=(Option.some.inj (Tryz.func5.symm.trans hfn)).symm
    exact ⟨aVz,λj t ht=>by
     rw [Tryz.params5] at ht
     have hm:t∈[31,41]:=by simpa using Array.mem_of_getElem? ht
     have hall:([31,41].all λu=> !Go.Proofs.Tryz.prog.wantsStandIn u)=true:=by kernel_rfl
     exact (show Go.Proofs.Tryz.prog.wantsStandIn t=false by simpa using List.all_eq_true.1 hall t hm)⟩)
  aNa
end Go.Proofs.YtanlechpmkpbiaaGreatDoor
