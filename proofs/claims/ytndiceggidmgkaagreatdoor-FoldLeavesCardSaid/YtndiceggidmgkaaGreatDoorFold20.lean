/-
  Lemmas (part 20) for: What fold.Fold makes of any graph is what the document says (FoldMakes, FoldAll, FoldNames, FoldLeaves hold for every graph); no condition.
-/
import Derived.Test.YtndiceggidmgkaaGreatDoorFold7
import Derived.Test.YtndiceggidmgkaaGreatDoorFold13
set_option linter.all false
namespace Go.Proofs.YtndiceggidmgkaaGreatDoor
open Go Go.ChangeShapes Go.WideShapes Go.ChangeAt Go.RowKit Go.V
set_option maxRecDepth 100000
theorem jf_0_FoldLeaves : (Rows.foldLeavesRow.wf (OpenSpec.ofChange Rows.foldLeavesSpec)) = true := by kernel_rfl
theorem jf_3_FoldLeaves : (Go.Proofs.Tryz.f7.params.all (Go.Proofs.Tryz.prog.readableRec ·)) = true := by kernel_rfl
theorem jf_4_FoldLeaves : (namedTie Go.Proofs.Tryz.prog Rows.foldLeavesRow.named Rows.foldLeavesSpec.vars) = true := by kernel_rfl
theorem jf_5_FoldLeaves : ((Rows.foldLeavesRow.stops == [])) = true := by kernel_rfl
theorem jf_7_FoldLeaves : ((Rows.foldLeavesRow.knobs == [])) = true := by kernel_rfl
theorem jf_9_FoldLeaves : ((Rows.foldLeavesRow.inPlace == Go.Proofs.Tryz.prog.inPlace 7)) = true := by kernel_rfl
theorem jf_10_FoldLeaves : ((Rows.foldLeavesRow.unfollowed == Go.Proofs.Tryz.prog.unfollowed 7)) = true := by kernel_rfl
theorem jf_11_FoldLeaves : ((Rows.foldLeavesRow.recurses == Go.Proofs.Tryz.prog.recurses 7)) = true := by kernel_rfl
theorem jf_12_FoldLeaves : ((Rows.foldLeavesRow.named == Go.Proofs.Tryz.prog.varsNamed 7)) = true := by kernel_rfl
theorem jf_13_FoldLeaves : ((Rows.foldLeavesRow.maps == (Go.Proofs.Tryz.f7.params.toList ++ Rows.foldLeavesSpec.plain.varTypes Go.Proofs.Tryz.prog).any (Go.Proofs.Tryz.prog.mapsRec ·))) = true := by kernel_rfl
theorem jf_14_FoldLeaves : ((Rows.foldLeavesRow.ifaces == (Go.Proofs.Tryz.f7.params.toList ++ Rows.foldLeavesSpec.plain.varTypes Go.Proofs.Tryz.prog).any (Go.Proofs.Tryz.prog.ifacesRec ·))) = true := by kernel_rfl
theorem jf_15_FoldLeaves : ((Rows.foldLeavesRow.mapsOut == Go.Proofs.Tryz.prog.mapsAmong Go.Proofs.Tryz.f7.resultTypes.toList)) = true := by kernel_rfl
theorem jf_16_FoldLeaves : ((Rows.foldLeavesRow.loops == (Go.Proofs.Tryz.f7.params.toList ++ Rows.foldLeavesSpec.plain.varTypes Go.Proofs.Tryz.prog).any (Go.Proofs.Tryz.prog.loopsFrom ·))) = true := by kernel_rfl
theorem jf_17_FoldLeaves : ((Rows.foldLeavesRow.wideKeys == (Go.Proofs.Tryz.f7.params.toList ++ Rows.foldLeavesSpec.plain.varTypes Go.Proofs.Tryz.prog ++ Go.Proofs.Tryz.f7.resultTypes.toList).any (Go.Proofs.Tryz.prog.wideKeysFrom ·))) = true := by kernel_rfl
theorem jf_18_FoldLeaves : (Rows.foldLeavesSpec.vars.all (Go.Proofs.Tryz.prog.varReadable ·)) = true := by kernel_rfl
theorem jf_19_FoldLeaves : (Go.Proofs.Tryz.f7.resultTypes.all (fun t => Go.Proofs.Tryz.prog.readableRec t && decide (t < Go.Proofs.Tryz.prog.types.size))) = true := by kernel_rfl
theorem jf_20_FoldLeaves : ((Rows.foldLeavesRow.ifacesOut == Go.Proofs.Tryz.f7.resultTypes.toList.any (Go.Proofs.Tryz.prog.ifacesRec ·))) = true := by kernel_rfl
theorem jf_21_FoldLeaves : ((Rows.foldLeavesRow.loopsOut == Go.Proofs.Tryz.f7.resultTypes.toList.any (Go.Proofs.Tryz.prog.loopsFrom ·))) = true := by kernel_rfl
theorem jf_23_FoldLeaves : (Rows.foldLeavesRow.shortTexts.isNone) = true := by kernel_rfl
theorem jf_28_FoldLeaves : ((Rows.foldLeavesRow.kinds == (if Rows.foldLeavesRow.domain.isEmpty then [] else Go.Proofs.Tryz.f7.params.toList.map fun t => match Go.Proofs.Tryz.prog.underlying t with | some (.int k) => some k | _ => none))) = true := by kernel_rfl
theorem jf_29_FoldLeaves : ((Rows.foldLeavesRow.pinned == Rows.foldLeavesRow.pinnedBy)) = true := by kernel_rfl
theorem jf_30_FoldLeaves : ((Rows.foldLeavesRow.veiled == (Go.Proofs.Tryz.f7.params.toList ++ Rows.foldLeavesSpec.plain.varTypes Go.Proofs.Tryz.prog ++ Go.Proofs.Tryz.f7.resultTypes.toList).any (Go.Proofs.Tryz.prog.veiledRec ·))) = true := by kernel_rfl
theorem jf_31_FoldLeaves : (Rows.foldLeavesRow.veiledFits Go.Proofs.Tryz.prog Go.Proofs.Tryz.f7.params.toList (Go.Proofs.Tryz.f7.params.toList ++ Rows.foldLeavesSpec.plain.varTypes Go.Proofs.Tryz.prog ++ Go.Proofs.Tryz.f7.resultTypes.toList)) = true := by kernel_rfl
theorem jf_FoldLeaves : joinedFacts Go.Proofs.Tryz.prog 7 Go.Proofs.Tryz.f7 Rows.foldLeavesSpec Rows.foldLeavesRow = true := by
  unfold joinedFacts
  exact (an (an (an (an (an (an (an (an (an (an (an (an (an (an (an (an (an (an (an (an (an (an (an (an (an (an (an (an (an (an (an jf_0_FoldLeaves jf_1) jf_2) jf_3_FoldLeaves) jf_4_FoldLeaves) jf_5_FoldLeaves) jf_6) jf_7_FoldLeaves) jf_8) jf_9_FoldLeaves) jf_10_FoldLeaves) jf_11_FoldLeaves) jf_12_FoldLeaves) jf_13_FoldLeaves) jf_14_FoldLeaves) jf_15_FoldLeaves) jf_16_FoldLeaves) jf_17_FoldLeaves) jf_18_FoldLeaves) jf_19_FoldLeaves) jf_20_FoldLeaves) jf_21_FoldLeaves) jf_22) jf_23_FoldLeaves) jf_24) jf_25) jf_26) jf_27) jf_28_FoldLeaves) jf_29_FoldLeaves) jf_30_FoldLeaves) jf_31_FoldLeaves)
theorem row_FoldLeaves : Rows.FoldLeavesSaid :=
  OpenClaim.holds_of_wide 7 Go.Proofs.Tryz.f7 rfl rfl rfl rfl rfl rfl rfl ⟨rfl, rfl, rfl, rfl, rfl⟩ rfl rfl rfl rfl rfl (by kernel_rfl) Tryz.func7 jf_FoldLeaves
    (of_decide_eq_true (by kernel_rfl)) (by unfold Func.isWrapper; first | (rw [if_pos (by decide +kernel)]; kernel_rfl) | (rw [if_neg (by decide +kernel)]; exact ⟨rfl, rfl⟩))
    (fun os started H enc _ => lifted_FoldLeaves os started H enc)
end Go.Proofs.YtndiceggidmgkaaGreatDoor
