/-
  Lemmas (part 7) for: What fold.Fold makes of any graph is what the document says (FoldMakes, FoldAll, FoldNames, FoldLeaves hold for every graph); no condition.
-/
import Derived.Test.YtndiceggidmgkaaGreatDoorFold6
set_option linter.all false
namespace Go.Proofs.YtndiceggidmgkaaGreatDoor
open Go Go.ChangeShapes Go.WideShapes Go.ChangeAt Go.RowKit Go.V
set_option maxRecDepth 100000
theorem an {a b : Bool} (h : a = true) (k : b = true) : (a && b) = true := by rw [h, k]; rfl
theorem jf_1 : (laidOutB Go.Proofs.Tryz.prog) = true := by kernel_rfl
theorem jf_2 : (mapsRowed Go.Proofs.Tryz.prog) = true := by kernel_rfl
theorem jf_6 : ((Go.Proofs.Tryz.prog.stops == [])) = true := by kernel_rfl
theorem jf_8 : ((Go.Proofs.Tryz.prog.stopKnobs == [])) = true := by kernel_rfl
theorem jf_22 : ((Rows.foldMakesRow.plainKeys == Go.Proofs.Tryz.prog.plainKeys)) = true := by kernel_rfl
theorem jf_24 : (Go.Proofs.Tryz.prog.stopsHeard) = true := by kernel_rfl
theorem jf_25 : (Go.Proofs.Tryz.prog.mayEnter) = true := by kernel_rfl
theorem jf_26 : ((Rows.foldMakesRow.lifted == Go.Proofs.Tryz.prog.liftsFinal)) = true := by kernel_rfl
theorem jf_27 : ((Go.Proofs.Tryz.prog.make == some Rows.foldMakesRow.make)) = true := by kernel_rfl
theorem cf_looks : true = Go.Proofs.Tryz.prog.looks [] := by kernel_rfl
end Go.Proofs.YtndiceggidmgkaaGreatDoor
