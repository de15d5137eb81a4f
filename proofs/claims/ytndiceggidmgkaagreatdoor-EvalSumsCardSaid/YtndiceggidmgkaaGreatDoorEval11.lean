/-
  EvalSums holds for all arguments; no condition. EvalNode, EvalSums, EvalBehind and EvalOrder hold for all arguments; no condition.
-/
import Derived.Test.YtndiceggidmgkaaGreatDoorEval10
set_option linter.all false
namespace Go.Proofs.YtndiceggidmgkaaGreatDoor
open Go Go.ChangeShapes Go.WideShapes Go.ChangeAt Go.RowKit Go.V
set_option maxRecDepth 100000
theorem cf_w_EvalSums : Rows.evalSumsRow.wfByText (OpenSpec.ofChange Rows.evalSumsSpec) = true := by kernel_rfl
theorem cf_main_EvalSums : Go.Proofs.Tryz.prog.mainIs = some (Rows.evalSumsCard.stood.harness.1, Rows.evalSumsCard.stood.harness.2.toList) := by kernel_rfl
theorem cf_goes_EvalSums : false = Rows.evalSumsRow.goesBy Go.Proofs.Tryz.prog := by kernel_rfl
theorem evalSums_holds : Rows.EvalSumsCardSaid :=
  Claim7.holds_tied_plain_at .later [] [.data, .handle, .sentinel, .sentinel, .pinned] true Rows.evalSumsCard.stood.harness true row_EvalSums (fun _ h => by cases h) cf_w_EvalSums (fun _ h => by cases h) evalSums_row_tie rfl ⟨rfl, rfl⟩ cf_main_EvalSums rfl
    (fun f fn hf hfn => by
      obtain rfl : f = 12 := Option.some.inj ((show Go.Proofs.Tryz.prog.funcNamed "tapewright/tapewrightlaw12.EvalSums" = some 12 by kernel_rfl).symm.trans hf) |>.symm
      obtain rfl : fn = Go.Proofs.Tryz.f12 := (Option.some.inj (Tryz.func12.symm.trans hfn)).symm
      exact ⟨cf_looks, fun j t ht => by
        rw [Tryz.params12] at ht
        have hm : t ∈ [24, 47] := by simpa using Array.mem_of_getElem? ht
        have hall : ([24, 47].all fun u => !Go.Proofs.Tryz.prog.wantsStandIn u) = true := by kernel_rfl
        exact (show Go.Proofs.Tryz.prog.wantsStandIn t = false by simpa using List.all_eq_true.1 hall t hm)⟩)
    cf_goes_EvalSums
end Go.Proofs.YtndiceggidmgkaaGreatDoor
