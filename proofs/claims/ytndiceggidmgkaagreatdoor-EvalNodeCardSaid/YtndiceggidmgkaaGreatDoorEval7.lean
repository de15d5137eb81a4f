/-
  EvalNode holds for all arguments; no condition. EvalNode, EvalSums, EvalBehind and EvalOrder hold for all arguments; no condition.
-/
import Derived.Test.YtndiceggidmgkaaGreatDoorEval6
set_option linter.all false
namespace Go.Proofs.YtndiceggidmgkaaGreatDoor
open Go Go.ChangeShapes Go.WideShapes Go.ChangeAt Go.RowKit Go.V
set_option maxRecDepth 100000
theorem cf_w_EvalNode : Rows.evalNodeRow.wfByText (OpenSpec.ofChange Rows.evalNodeSpec) = true := by kernel_rfl
theorem cf_main_EvalNode : Go.Proofs.Tryz.prog.mainIs = some (Rows.evalNodeCard.stood.harness.1, Rows.evalNodeCard.stood.harness.2.toList) := by kernel_rfl
theorem cf_goes_EvalNode : false = Rows.evalNodeRow.goesBy Go.Proofs.Tryz.prog := by kernel_rfl
theorem evalNode_holds : Rows.EvalNodeCardSaid :=
  Claim7.holds_tied_plain_at .later [] [.data, .handle, .sentinel, .sentinel, .pinned] true Rows.evalNodeCard.stood.harness true row_EvalNode (fun _ h => by cases h) cf_w_EvalNode (fun _ h => by cases h) evalNode_row_tie rfl ⟨rfl, rfl⟩ cf_main_EvalNode rfl
    (fun f fn hf hfn => by
      obtain rfl : f = 8 := Option.some.inj ((show Go.Proofs.Tryz.prog.funcNamed "tapewright/tapewrightlaw12.EvalNode" = some 8 by kernel_rfl).symm.trans hf) |>.symm
      obtain rfl : fn = Go.Proofs.Tryz.f8 := (Option.some.inj (Tryz.func8.symm.trans hfn)).symm
      exact ⟨cf_looks, fun j t ht => by
        rw [Tryz.params8] at ht
        have hm : t ∈ [24, 47] := by simpa using Array.mem_of_getElem? ht
        have hall : ([24, 47].all fun u => !Go.Proofs.Tryz.prog.wantsStandIn u) = true := by kernel_rfl
        exact (show Go.Proofs.Tryz.prog.wantsStandIn t = false by simpa using List.all_eq_true.1 hall t hm)⟩)
    cf_goes_EvalNode
end Go.Proofs.YtndiceggidmgkaaGreatDoor
