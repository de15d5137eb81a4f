/-
  FoldNames holds for all arguments; no condition. What fold.Fold makes of any graph is what the document says (FoldMakes, FoldAll, FoldNames, FoldLeaves hold for every graph); no condition.
-/
import Derived.Test.YtndiceggidmgkaaGreatDoorFold18
set_option linter.all false
namespace Go.Proofs.YtndiceggidmgkaaGreatDoor
open Go Go.ChangeShapes Go.WideShapes Go.ChangeAt Go.RowKit Go.V
set_option maxRecDepth 100000
theorem cf_w_FoldNames : Rows.foldNamesRow.wfByText (OpenSpec.ofChange Rows.foldNamesSpec) = true := by kernel_rfl
theorem cf_main_FoldNames : Go.Proofs.Tryz.prog.mainIs = some (Rows.foldNamesCard.stood.harness.1, Rows.foldNamesCard.stood.harness.2.toList) := by kernel_rfl
theorem cf_goes_FoldNames : false = Rows.foldNamesRow.goesBy Go.Proofs.Tryz.prog := by kernel_rfl
theorem foldNames_holds : Rows.FoldNamesCardSaid :=
  Claim7.holds_tied_plain_at .later [] [.data, .handle, .sentinel, .sentinel, .pinned] true Rows.foldNamesCard.stood.harness true row_FoldNames (fun _ h => by cases h) cf_w_FoldNames (fun _ h => by cases h) foldNames_row_tie rfl ⟨rfl, rfl⟩ cf_main_FoldNames rfl
    (fun f fn hf hfn => by
      obtain rfl : f = 5 := Option.some.inj ((show Go.Proofs.Tryz.prog.funcNamed "tapewright/tapewrightlaw14.FoldNames" = some 5 by kernel_rfl).symm.trans hf) |>.symm
      obtain rfl : fn = Go.Proofs.Tryz.f5 := (Option.some.inj (Tryz.func5.symm.trans hfn)).symm
      exact ⟨cf_looks, fun j t ht => by
        rw [Tryz.params5] at ht
        have hm : t ∈ [24] := by simpa using Array.mem_of_getElem? ht
        have hall : ([24].all fun u => !Go.Proofs.Tryz.prog.wantsStandIn u) = true := by kernel_rfl
        exact (show Go.Proofs.Tryz.prog.wantsStandIn t = false by simpa using List.all_eq_true.1 hall t hm)⟩)
    cf_goes_FoldNames
end Go.Proofs.YtndiceggidmgkaaGreatDoor
