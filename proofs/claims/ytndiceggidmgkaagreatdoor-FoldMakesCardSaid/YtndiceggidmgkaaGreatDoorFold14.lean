/-
  Lemmas (part 14) for: What fold.Fold makes of any graph is what the document says (FoldMakes, FoldAll, FoldNames, FoldLeaves hold for every graph); no condition.
-/
import Derived.Test.YtndiceggidmgkaaGreatDoorFold7
import Derived.Test.YtndiceggidmgkaaGreatDoorFold13
set_option linter.all false
namespace Go.Proofs.YtndiceggidmgkaaGreatDoor
open Go Go.ChangeShapes Go.WideShapes Go.ChangeAt Go.RowKit Go.V
set_option maxRecDepth 100000
theorem jf_0_FoldMakes : (Rows.foldMakesRow.wf (OpenSpec.ofChange Rows.foldMakesSpec)) = true := by kernel_rfl
theorem jf_3_FoldMakes : (Go.Proofs.Tryz.f3.params.all (Go.Proofs.Tryz.prog.readableRec ·)) = true := by kernel_rfl
theorem jf_4_FoldMakes : (namedTie Go.Proofs.Tryz.prog Rows.foldMakesRow.named Rows.foldMakesSpec.vars) = true := by kernel_rfl
theorem jf_5_FoldMakes : ((Rows.foldMakesRow.stops == [])) = true := by kernel_rfl
theorem jf_7_FoldMakes : ((Rows.foldMakesRow.knobs == [])) = true := by kernel_rfl
theorem jf_9_FoldMakes : ((Rows.foldMakesRow.inPlace == Go.Proofs.Tryz.prog.inPlace 3)) = true := by kernel_rfl
theorem jf_10_FoldMakes : ((Rows.foldMakesRow.unfollowed == Go.Proofs.Tryz.prog.unfollowed 3)) = true := by kernel_rfl
theorem jf_11_FoldMakes : ((Rows.foldMakesRow.recurses == Go.Proofs.Tryz.prog.recurses 3)) = true := by kernel_rfl
theorem jf_12_FoldMakes : ((Rows.foldMakesRow.named == Go.Proofs.Tryz.prog.varsNamed 3)) = true := by kernel_rfl
theorem jf_13_FoldMakes : ((Rows.foldMakesRow.maps == (Go.Proofs.Tryz.f3.params.toList ++ Rows.foldMakesSpec.plain.varTypes Go.Proofs.Tryz.prog).any (Go.Proofs.Tryz.prog.mapsRec ·))) = true := by kernel_rfl
theorem jf_14_FoldMakes : ((Rows.foldMakesRow.ifaces == (Go.Proofs.Tryz.f3.params.toList ++ Rows.foldMakesSpec.plain.varTypes Go.Proofs.Tryz.prog).any (Go.Proofs.Tryz.prog.ifacesRec ·))) = true := by kernel_rfl
theorem jf_15_FoldMakes : ((Rows.foldMakesRow.mapsOut == Go.Proofs.Tryz.prog.mapsAmong Go.Proofs.Tryz.f3.resultTypes.toList)) = true := by kernel_rfl
theorem jf_16_FoldMakes : ((Rows.foldMakesRow.loops == (Go.Proofs.Tryz.f3.params.toList ++ Rows.foldMakesSpec.plain.varTypes Go.Proofs.Tryz.prog).any (Go.Proofs.Tryz.prog.loopsFrom ·))) = true := by kernel_rfl
theorem jf_17_FoldMakes : ((Rows.foldMakesRow.wideKeys == (Go.Proofs.Tryz.f3.params.toList ++ Rows.foldMakesSpec.plain.varTypes Go.Proofs.Tryz.prog ++ Go.Proofs.Tryz.f3.resultTypes.toList).any (Go.Proofs.Tryz.prog.wideKeysFrom ·))) = true := by kernel_rfl
theorem jf_18_FoldMakes : (Rows.foldMakesSpec.vars.all (Go.Proofs.Tryz.prog.varReadable ·)) = true := by kernel_rfl
theorem jf_19_FoldMakes : (Go.Proofs.Tryz.f3.resultTypes.all (fun t => Go.Proofs.Tryz.prog.readableRec t && decide (t < Go.Proofs.Tryz.prog.types.size))) = true := by kernel_rfl
theorem jf_20_FoldMakes : ((Rows.foldMakesRow.ifacesOut == Go.Proofs.Tryz.f3.resultTypes.toList.any (Go.Proofs.Tryz.prog.ifacesRec ·))) = true := by kernel_rfl
theorem jf_21_FoldMakes : ((Rows.foldMakesRow.loopsOut == Go.Proofs.Tryz.f3.resultTypes.toList.any (Go.Proofs.Tryz.prog.loopsFrom ·))) = true := by kernel_rfl
theorem jf_23_FoldMakes : (Rows.foldMakesRow.shortTexts.isNone) = true := by kernel_rfl
theorem jf_28_FoldMakes : ((Rows.foldMakesRow.kinds == (if Rows.foldMakesRow.domain.isEmpty then [] else Go.Proofs.Tryz.f3.params.toList.map fun t => match Go.Proofs.Tryz.prog.underlying t with | some (.int k) => some k | _ => none))) = true := by kernel_rfl
theorem jf_29_FoldMakes : ((Rows.foldMakesRow.pinned == Rows.foldMakesRow.pinnedBy)) = true := by kernel_rfl
theorem jf_30_FoldMakes : ((Rows.foldMakesRow.veiled == (Go.Proofs.Tryz.f3.params.toList ++ Rows.foldMakesSpec.plain.varTypes Go.Proofs.Tryz.prog ++ Go.Proofs.Tryz.f3.resultTypes.toList).any (Go.Proofs.Tryz.prog.veiledRec ·))) = true := by kernel_rfl
theorem jf_31_FoldMakes : (Rows.foldMakesRow.veiledFits Go.Proofs.Tryz.prog Go.Proofs.Tryz.f3.params.toList (Go.Proofs.Tryz.f3.params.toList ++ Rows.foldMakesSpec.plain.varTypes Go.Proofs.Tryz.prog ++ Go.Proofs.Tryz.f3.resultTypes.toList)) = true := by kernel_rfl
theorem jf_FoldMakes : joinedFacts Go.Proofs.Tryz.prog 3 Go.Proofs.Tryz.f3 Rows.foldMakesSpec Rows.foldMakesRow = true := by
  unfold joinedFacts
  exact (an (an (an (an (an (an (an (an (an (an (an (an (an (an (an (an (an (an (an (an (an (an (an (an (an (an (an (an (an (an (an jf_0_FoldMakes jf_1) jf_2) jf_3_FoldMakes) jf_4_FoldMakes) jf_5_FoldMakes) jf_6) jf_7_FoldMakes) jf_8) jf_9_FoldMakes) jf_10_FoldMakes) jf_11_FoldMakes) jf_12_FoldMakes) jf_13_FoldMakes) jf_14_FoldMakes) jf_15_FoldMakes) jf_16_FoldMakes) jf_17_FoldMakes) jf_18_FoldMakes) jf_19_FoldMakes) jf_20_FoldMakes) jf_21_FoldMakes) jf_22) jf_23_FoldMakes) jf_24) jf_25) jf_26) jf_27) jf_28_FoldMakes) jf_29_FoldMakes) jf_30_FoldMakes) jf_31_FoldMakes)
theorem row_FoldMakes : Rows.FoldMakesSaid :=
  OpenClaim.holds_of_wide 3 Go.Proofs.Tryz.f3 rfl rfl rfl rfl rfl rfl rfl ⟨rfl, rfl, rfl, rfl, rfl⟩ rfl rfl rfl rfl rfl (by kernel_rfl) Tryz.func3 jf_FoldMakes
    (of_decide_eq_true (by kernel_rfl)) (by unfold Func.isWrapper; first | (rw [if_pos (by decide +kernel)]; kernel_rfl) | (rw [if_neg (by decide +kernel)]; exact ⟨rfl, rfl⟩))
    (fun os started H enc _ => lifted_FoldMakes os started H enc)
end Go.Proofs.YtndiceggidmgkaaGreatDoor
