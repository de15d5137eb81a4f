/-
  EvalBehind holds for all arguments; no condition. EvalNode, EvalSums, EvalBehind and EvalOrder hold for all arguments; no condition.
-/
import Derived.Test.YtndiceggidmgkaaGreatDoorEval14
set_option linter.all false
namespace Go.Proofs.YtndiceggidmgkaaGreatDoor
open Go Go.ChangeShapes Go.WideShapes Go.ChangeAt Go.RowKit Go.V
set_option maxRecDepth 100000
theorem cf_w_EvalBehind : Rows.evalBehindRow.wfByText (OpenSpec.ofChange Rows.evalBehindSpec) = true := by kernel_rfl
theorem cf_main_EvalBehind : Go.Proofs.Tryz.prog.mainIs = some (Rows.evalBehindCard.stood.harness.1, Rows.evalBehindCard.stood.harness.2.toList) := by kernel_rfl
theorem cf_goes_EvalBehind : false = Rows.evalBehindRow.goesBy Go.Proofs.Tryz.prog := by kernel_rfl
theorem evalBehind_holds : Rows.EvalBehindCardSaid :=
  Claim7.holds_tied_plain_at .later [] [.data, .handle, .sentinel, .sentinel, .pinned] true Rows.evalBehindCard.stood.harness true row_EvalBehind (fun _ h => by cases h) cf_w_EvalBehind (fun _ h => by cases h) evalBehind_row_tie rfl ⟨rfl, rfl⟩ cf_main_EvalBehind rfl
    (fun f fn hf hfn => by
      obtain rfl : f = 9 := Option.some.inj ((show Go.Proofs.Tryz.prog.funcNamed "tapewright/tapewrightlaw12.EvalBehind" = some 9 by kernel_rfl).symm.trans hf) |>.symm
      obtain rfl : fn = Go.Proofs.Tryz.f9 := (Option.some.inj (Tryz.func9.symm.trans hfn)).symm
      exact ⟨cf_looks, fun j t ht => by
        rw [Tryz.params9] at ht
        have hm : t ∈ [24, 36, 47] := by simpa using Array.mem_of_getElem? ht
        have hall : ([24, 36, 47].all fun u => !Go.Proofs.Tryz.prog.wantsStandIn u) = true := by kernel_rfl
        exact (show Go.Proofs.Tryz.prog.wantsStandIn t = false by simpa using List.all_eq_true.1 hall t hm)⟩)
    cf_goes_EvalBehind
end Go.Proofs.YtndiceggidmgkaaGreatDoor
