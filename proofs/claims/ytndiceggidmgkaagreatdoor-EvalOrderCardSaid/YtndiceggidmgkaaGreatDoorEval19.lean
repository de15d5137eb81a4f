/-
  EvalOrder holds for all arguments; no condition. EvalNode, EvalSums, EvalBehind and EvalOrder hold for all arguments; no condition.
-/
import Derived.Test.YtndiceggidmgkaaGreatDoorEval18
set_option linter.all false
namespace Go.Proofs.YtndiceggidmgkaaGreatDoor
open Go Go.ChangeShapes Go.WideShapes Go.ChangeAt Go.RowKit Go.V
set_option maxRecDepth 100000
theorem cf_w_EvalOrder : Rows.evalOrderRow.wfByText (OpenSpec.ofChange Rows.evalOrderSpec) = true := by kernel_rfl
theorem cf_main_EvalOrder : Go.Proofs.Tryz.prog.mainIs = some (Rows.evalOrderCard.stood.harness.1, Rows.evalOrderCard.stood.harness.2.toList) := by kernel_rfl
theorem cf_goes_EvalOrder : false = Rows.evalOrderRow.goesBy Go.Proofs.Tryz.prog := by kernel_rfl
theorem evalOrder_holds : Rows.EvalOrderCardSaid :=
  Claim7.holds_tied_plain_at .later [] [.data, .handle, .sentinel, .sentinel, .pinned] true Rows.evalOrderCard.stood.harness true row_EvalOrder (fun _ h => by cases h) cf_w_EvalOrder (fun _ h => by cases h) evalOrder_row_tie rfl ⟨rfl, rfl⟩ cf_main_EvalOrder rfl
    (fun f fn hf hfn => by
      obtain rfl : f = 11 := Option.some.inj ((show Go.Proofs.Tryz.prog.funcNamed "tapewright/tapewrightlaw12.EvalOrder" = some 11 by kernel_rfl).symm.trans hf) |>.symm
      obtain rfl : fn = Go.Proofs.Tryz.f11 := (Option.some.inj (Tryz.func11.symm.trans hfn)).symm
      exact ⟨cf_looks, fun j t ht => by
        rw [Tryz.params11] at ht
        have hm : t ∈ [24, 47, 40] := by simpa using Array.mem_of_getElem? ht
        have hall : ([24, 47, 40].all fun u => !Go.Proofs.Tryz.prog.wantsStandIn u) = true := by kernel_rfl
        exact (show Go.Proofs.Tryz.prog.wantsStandIn t = false by simpa using List.all_eq_true.1 hall t hm)⟩)
    cf_goes_EvalOrder
end Go.Proofs.YtndiceggidmgkaaGreatDoor
