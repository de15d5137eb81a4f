/-
  FoldOnce holds for all arguments; no condition.
-/
import Derived.Test.YtanlechpmkpbiaaGreatDoorOnce3
set_option linter.all false
namespace Go.Proofs.YtanlechpmkpbiaaGreatDoor
open Go Go.ChangeShapes Go.WideShapes Go.ChangeAt Go.RowKit Go.V
set_option maxRecDepth 100000
theorem cDw:Rows.foldOnceRow.wfByText (OpenSpec.ofChange Rows.foldOnceSpec)=true:=by kernel_rfl
theorem cDd:Go.Proofs.Tryz.prog.mainIs=some (Rows.foldOnceCard.stood.harness.1,Rows.foldOnceCard.stood.harness.2.toList):=by kernel_rfl
theorem cDc:false=Rows.foldOnceRow.goesBy Go.Proofs.Tryz.prog:=by kernel_rfl
theorem foldOnce_holds:Rows.FoldOnceCardSaid:=
 Claim7.holds_tied_plain_at .later [] [.data,.handle,.sentinel,.sentinel,.pinned] true Rows.foldOnceCard.stood.harness true cD6 (λ_ h=>by cases h) cDw (λ_ h=>by cases h) foldOnce_row_tie rfl ⟨rfl,rfl⟩ cDd rfl
  (λf fn hf hfn=>by
    obtain rfl:f=3:=Option.some.inj ((show Go.Proofs.Tryz.prog.funcNamed "tapewright/tapewrightlaw14.FoldOnce" =some 3 by kernel_rfl).symm.trans hf) |>.symm
    obtain rfl:fn=Go.Proofs.Tryz.f3:=(Option.some.inj (Tryz.func3.symm.trans hfn)).symm
    exact ⟨aVz,λj t ht=>by
     rw [Tryz.params3] at ht
     have hm:t∈[25,27]:=by simpa using Array.mem_of_getElem? ht
     have hall:([25,27].all λu=> !Go.Proofs.Tryz.prog.wantsStandIn u)=true:=by kernel_rfl
     exact (show Go.Proofs.Tryz.prog.wantsStandIn t=false by simpa using List.all_eq_true.1 hall t hm)⟩)
  cDc
end Go.Proofs.YtanlechpmkpbiaaGreatDoor
