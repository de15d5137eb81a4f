/-
  Lemmas (part 18) for: What fold.Fold makes of any graph is what the document says (FoldMakes, FoldAll, FoldNames, FoldLeaves hold for every graph); no condition.
-/
import Derived.Test.YtndiceggidmgkaaGreatDoorFold7
import Derived.Test.YtndiceggidmgkaaGreatDoorFold13
set_option linter.all false
namespace Go.Proofs.YtndiceggidmgkaaGreatDoor
open Go Go.ChangeShapes Go.WideShapes Go.ChangeAt Go.RowKit Go.V
set_option maxRecDepth 100000
theorem jf_0_FoldNames : (Rows.foldNamesRow.wf (OpenSpec.ofChange Rows.foldNamesSpec)) = true := by kernel_rfl
theorem jf_3_FoldNames : (Go.Proofs.Tryz.f5.params.all (Go.Proofs.Tryz.prog.readableRec ·)) = true := by kernel_rfl
theorem jf_4_FoldNames : (namedTie Go.Proofs.Tryz.prog Rows.foldNamesRow.named Rows.foldNamesSpec.vars) = true := by kernel_rfl
theorem jf_5_FoldNames : ((Rows.foldNamesRow.stops == [])) = true := by kernel_rfl
theorem jf_7_FoldNames : ((Rows.foldNamesRow.knobs == [])) = true := by kernel_rfl
theorem jf_9_FoldNames : ((Rows.foldNamesRow.inPlace == Go.Proofs.Tryz.prog.inPlace 5)) = true := by kernel_rfl
theorem jf_10_FoldNames : ((Rows.foldNamesRow.unfollowed == Go.Proofs.Tryz.prog.unfollowed 5)) = true := by kernel_rfl
theorem jf_11_FoldNames : ((Rows.foldNamesRow.recurses == Go.Proofs.Tryz.prog.recurses 5)) = true := by kernel_rfl
theorem jf_12_FoldNames : ((Rows.foldNamesRow.named == Go.Proofs.Tryz.prog.varsNamed 5)) = true := by kernel_rfl
theorem jf_13_FoldNames : ((Rows.foldNamesRow.maps == (Go.Proofs.Tryz.f5.params.toList ++ Rows.foldNamesSpec.plain.varTypes Go.Proofs.Tryz.prog).any (Go.Proofs.Tryz.prog.mapsRec ·))) = true := by kernel_rfl
theorem jf_14_FoldNames : ((Rows.foldNamesRow.ifaces == (Go.Proofs.Tryz.f5.params.toList ++ Rows.foldNamesSpec.plain.varTypes Go.Proofs.Tryz.prog).any (Go.Proofs.Tryz.prog.ifacesRec ·))) = true := by kernel_rfl
theorem jf_15_FoldNames : ((Rows.foldNamesRow.mapsOut == Go.Proofs.Tryz.prog.mapsAmong Go.Proofs.Tryz.f5.resultTypes.toList)) = true := by kernel_rfl
theorem jf_16_FoldNames : ((Rows.foldNamesRow.loops == (Go.Proofs.Tryz.f5.params.toList ++ Rows.foldNamesSpec.plain.varTypes Go.Proofs.Tryz.prog).any (Go.Proofs.Tryz.prog.loopsFrom ·))) = true := by kernel_rfl
theorem jf_17_FoldNames : ((Rows.foldNamesRow.wideKeys == (Go.Proofs.Tryz.f5.params.toList ++ Rows.foldNamesSpec.plain.varTypes Go.Proofs.Tryz.prog ++ Go.Proofs.Tryz.f5.resultTypes.toList).any (Go.Proofs.Tryz.prog.wideKeysFrom ·))) = true := by kernel_rfl
theorem jf_18_FoldNames : (Rows.foldNamesSpec.vars.all (Go.Proofs.Tryz.prog.varReadable ·)) = true := by kernel_rfl
theorem jf_19_FoldNames : (Go.Proofs.Tryz.f5.resultTypes.all (fun t => Go.Proofs.Tryz.prog.readableRec t && decide (t < Go.Proofs.Tryz.prog.types.size))) = true := by kernel_rfl
theorem jf_20_FoldNames : ((Rows.foldNamesRow.ifacesOut == Go.Proofs.Tryz.f5.resultTypes.toList.any (Go.Proofs.Tryz.prog.ifacesRec ·))) = true := by kernel_rfl
theorem jf_21_FoldNames : ((Rows.foldNamesRow.loopsOut == Go.Proofs.Tryz.f5.resultTypes.toList.any (Go.Proofs.Tryz.prog.loopsFrom ·))) = true := by kernel_rfl
theorem jf_23_FoldNames : (Rows.foldNamesRow.shortTexts.isNone) = true := by kernel_rfl
theorem jf_28_FoldNames : ((Rows.foldNamesRow.kinds == (if Rows.foldNamesRow.domain.isEmpty then [] else Go.Proofs.Tryz.f5.params.toList.map fun t => match Go.Proofs.Tryz.prog.underlying t with | some (.int k) => some k | _ => none))) = true := by kernel_rfl
theorem jf_29_FoldNames : ((Rows.foldNamesRow.pinned == Rows.foldNamesRow.pinnedBy)) = true := by kernel_rfl
theorem jf_30_FoldNames : ((Rows.foldNamesRow.veiled == (Go.Proofs.Tryz.f5.params.toList ++ Rows.foldNamesSpec.plain.varTypes Go.Proofs.Tryz.prog ++ Go.Proofs.Tryz.f5.resultTypes.toList).any (Go.Proofs.Tryz.prog.veiledRec ·))) = true := by kernel_rfl
theorem jf_31_FoldNames : (Rows.foldNamesRow.veiledFits Go.Proofs.Tryz.prog Go.Proofs.Tryz.f5.params.toList (Go.Proofs.Tryz.f5.params.toList ++ Rows.foldNamesSpec.plain.varTypes Go.Proofs.Tryz.prog ++ Go.Proofs.Tryz.f5.resultTypes.toList)) = true := by kernel_rfl
theorem jf_FoldNames : joinedFacts Go.Proofs.Tryz.prog 5 Go.Proofs.Tryz.f5 Rows.foldNamesSpec Rows.foldNamesRow = true := by
  unfold joinedFacts
  exact (an (an (an (an (an (an (an (an (an (an (an (an (an (an (an (an (an (an (an (an (an (an (an (an (an (an (an (an (an (an (an jf_0_FoldNames jf_1) jf_2) jf_3_FoldNames) jf_4_FoldNames) jf_5_FoldNames) jf_6) jf_7_FoldNames) jf_8) jf_9_FoldNames) jf_10_FoldNames) jf_11_FoldNames) jf_12_FoldNames) jf_13_FoldNames) jf_14_FoldNames) jf_15_FoldNames) jf_16_FoldNames) jf_17_FoldNames) jf_18_FoldNames) jf_19_FoldNames) jf_20_FoldNames) jf_21_FoldNames) jf_22) jf_23_FoldNames) jf_24) jf_25) jf_26) jf_27) jf_28_FoldNames) jf_29_FoldNames) jf_30_FoldNames) jf_31_FoldNames)
theorem row_FoldNames : Rows.FoldNamesSaid :=
  OpenClaim.holds_of_wide 5 Go.Proofs.Tryz.f5 rfl rfl rfl rfl rfl rfl rfl ⟨rfl, rfl, rfl, rfl, rfl⟩ rfl rfl rfl rfl rfl (by kernel_rfl) Tryz.func5 jf_FoldNames
    (of_decide_eq_true (by kernel_rfl)) (by unfold Func.isWrapper; first | (rw [if_pos (by decide +kernel)]; kernel_rfl) | (rw [if_neg (by decide +kernel)]; exact ⟨rfl, rfl⟩))
    (fun os started H enc _ => lifted_FoldNames os started H enc)
end Go.Proofs.YtndiceggidmgkaaGreatDoor
