/-
  FoldAll holds for all arguments; no condition. What fold.Fold makes of any graph is what the document says (FoldMakes, FoldAll, FoldNames, FoldLeaves hold for every graph); no condition.
-/
import Derived.Test.YtndiceggidmgkaaGreatDoorFold16
set_option linter.all false
namespace Go.Proofs.YtndiceggidmgkaaGreatDoor
open Go Go.ChangeShapes Go.WideShapes Go.ChangeAt Go.RowKit Go.V
set_option maxRecDepth 100000
theorem cf_w_FoldAll : Rows.foldAllRow.wfByText (OpenSpec.ofChange Rows.foldAllSpec) = true := by kernel_rfl
theorem cf_main_FoldAll : Go.Proofs.Tryz.prog.mainIs = some (Rows.foldAllCard.stood.harness.1, Rows.foldAllCard.stood.harness.2.toList) := by kernel_rfl
theorem cf_goes_FoldAll : false = Rows.foldAllRow.goesBy Go.Proofs.Tryz.prog := by kernel_rfl
theorem foldAll_holds : Rows.FoldAllCardSaid :=
  Claim7.holds_tied_plain_at .later [] [.data, .handle, .sentinel, .sentinel, .pinned] true Rows.foldAllCard.stood.harness true row_FoldAll (fun _ h => by cases h) cf_w_FoldAll (fun _ h => by cases h) foldAll_row_tie rfl ⟨rfl, rfl⟩ cf_main_FoldAll rfl
    (fun f fn hf hfn => by
      obtain rfl : f = 4 := Option.some.inj ((show Go.Proofs.Tryz.prog.funcNamed "tapewright/tapewrightlaw14.FoldAll" = some 4 by kernel_rfl).symm.trans hf) |>.symm
      obtain rfl : fn = Go.Proofs.Tryz.f4 := (Option.some.inj (Tryz.func4.symm.trans hfn)).symm
      exact ⟨cf_looks, fun j t ht => by
        rw [Tryz.params4] at ht
        have hm : t ∈ [24] := by simpa using Array.mem_of_getElem? ht
        have hall : ([24].all fun u => !Go.Proofs.Tryz.prog.wantsStandIn u) = true := by kernel_rfl
        exact (show Go.Proofs.Tryz.prog.wantsStandIn t = false by simpa using List.all_eq_true.1 hall t hm)⟩)
    cf_goes_FoldAll
end Go.Proofs.YtndiceggidmgkaaGreatDoor
