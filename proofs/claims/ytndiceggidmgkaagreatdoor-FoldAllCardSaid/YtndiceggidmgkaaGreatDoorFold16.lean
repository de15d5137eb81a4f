/-
  Lemmas (part 16) for: What fold.Fold makes of any graph is what the document says (FoldMakes, FoldAll, FoldNames, FoldLeaves hold for every graph); no condition.
-/
import Derived.Test.YtndiceggidmgkaaGreatDoorFold7
import Derived.Test.YtndiceggidmgkaaGreatDoorFold13
set_option linter.all false
namespace Go.Proofs.YtndiceggidmgkaaGreatDoor
open Go Go.ChangeShapes Go.WideShapes Go.ChangeAt Go.RowKit Go.V
set_option maxRecDepth 100000
theorem jf_0_FoldAll : (Rows.foldAllRow.wf (OpenSpec.ofChange Rows.foldAllSpec)) = true := by kernel_rfl
theorem jf_3_FoldAll : (Go.Proofs.Tryz.f4.params.all (Go.Proofs.Tryz.prog.readableRec ·)) = true := by kernel_rfl
theorem jf_4_FoldAll : (namedTie Go.Proofs.Tryz.prog Rows.foldAllRow.named Rows.foldAllSpec.vars) = true := by kernel_rfl
theorem jf_5_FoldAll : ((Rows.foldAllRow.stops == [])) = true := by kernel_rfl
theorem jf_7_FoldAll : ((Rows.foldAllRow.knobs == [])) = true := by kernel_rfl
theorem jf_9_FoldAll : ((Rows.foldAllRow.inPlace == Go.Proofs.Tryz.prog.inPlace 4)) = true := by kernel_rfl
theorem jf_10_FoldAll : ((Rows.foldAllRow.unfollowed == Go.Proofs.Tryz.prog.unfollowed 4)) = true := by kernel_rfl
theorem jf_11_FoldAll : ((Rows.foldAllRow.recurses == Go.Proofs.Tryz.prog.recurses 4)) = true := by kernel_rfl
theorem jf_12_FoldAll : ((Rows.foldAllRow.named == Go.Proofs.Tryz.prog.varsNamed 4)) = true := by kernel_rfl
theorem jf_13_FoldAll : ((Rows.foldAllRow.maps == (Go.Proofs.Tryz.f4.params.toList ++ Rows.foldAllSpec.plain.varTypes Go.Proofs.Tryz.prog).any (Go.Proofs.Tryz.prog.mapsRec ·))) = true := by kernel_rfl
theorem jf_14_FoldAll : ((Rows.foldAllRow.ifaces == (Go.Proofs.Tryz.f4.params.toList ++ Rows.foldAllSpec.plain.varTypes Go.Proofs.Tryz.prog).any (Go.Proofs.Tryz.prog.ifacesRec ·))) = true := by kernel_rfl
theorem jf_15_FoldAll : ((Rows.foldAllRow.mapsOut == Go.Proofs.Tryz.prog.mapsAmong Go.Proofs.Tryz.f4.resultTypes.toList)) = true := by kernel_rfl
theorem jf_16_FoldAll : ((Rows.foldAllRow.loops == (Go.Proofs.Tryz.f4.params.toList ++ Rows.foldAllSpec.plain.varTypes Go.Proofs.Tryz.prog).any (Go.Proofs.Tryz.prog.loopsFrom ·))) = true := by kernel_rfl
theorem jf_17_FoldAll : ((Rows.foldAllRow.wideKeys == (Go.Proofs.Tryz.f4.params.toList ++ Rows.foldAllSpec.plain.varTypes Go.Proofs.Tryz.prog ++ Go.Proofs.Tryz.f4.resultTypes.toList).any (Go.Proofs.Tryz.prog.wideKeysFrom ·))) = true := by kernel_rfl
theorem jf_18_FoldAll : (Rows.foldAllSpec.vars.all (Go.Proofs.Tryz.prog.varReadable ·)) = true := by kernel_rfl
theorem jf_19_FoldAll : (Go.Proofs.Tryz.f4.resultTypes.all (fun t => Go.Proofs.Tryz.prog.readableRec t && decide (t < Go.Proofs.Tryz.prog.types.size))) = true := by kernel_rfl
theorem jf_20_FoldAll : ((Rows.foldAllRow.ifacesOut == Go.Proofs.Tryz.f4.resultTypes.toList.any (Go.Proofs.Tryz.prog.ifacesRec ·))) = true := by kernel_rfl
theorem jf_21_FoldAll : ((Rows.foldAllRow.loopsOut == Go.Proofs.Tryz.f4.resultTypes.toList.any (Go.Proofs.Tryz.prog.loopsFrom ·))) = true := by kernel_rfl
theorem jf_23_FoldAll : (Rows.foldAllRow.shortTexts.isNone) = true := by kernel_rfl
theorem jf_28_FoldAll : ((Rows.foldAllRow.kinds == (if Rows.foldAllRow.domain.isEmpty then [] else Go.Proofs.Tryz.f4.params.toList.map fun t => match Go.Proofs.Tryz.prog.underlying t with | some (.int k) => some k | _ => none))) = true := by kernel_rfl
theorem jf_29_FoldAll : ((Rows.foldAllRow.pinned == Rows.foldAllRow.pinnedBy)) = true := by kernel_rfl
theorem jf_30_FoldAll : ((Rows.foldAllRow.veiled == (Go.Proofs.Tryz.f4.params.toList ++ Rows.foldAllSpec.plain.varTypes Go.Proofs.Tryz.prog ++ Go.Proofs.Tryz.f4.resultTypes.toList).any (Go.Proofs.Tryz.prog.veiledRec ·))) = true := by kernel_rfl
theorem jf_31_FoldAll : (Rows.foldAllRow.veiledFits Go.Proofs.Tryz.prog Go.Proofs.Tryz.f4.params.toList (Go.Proofs.Tryz.f4.params.toList ++ Rows.foldAllSpec.plain.varTypes Go.Proofs.Tryz.prog ++ Go.Proofs.Tryz.f4.resultTypes.toList)) = true := by kernel_rfl
theorem jf_FoldAll : joinedFacts Go.Proofs.Tryz.prog 4 Go.Proofs.Tryz.f4 Rows.foldAllSpec Rows.foldAllRow = true := by
  unfold joinedFacts
  exact (an (an (an (an (an (an (an (an (an (an (an (an (an (an (an (an (an (an (an (an (an (an (an (an (an (an (an (an (an (an (an jf_0_FoldAll jf_1) jf_2) jf_3_FoldAll) jf_4_FoldAll) jf_5_FoldAll) jf_6) jf_7_FoldAll) jf_8) jf_9_FoldAll) jf_10_FoldAll) jf_11_FoldAll) jf_12_FoldAll) jf_13_FoldAll) jf_14_FoldAll) jf_15_FoldAll) jf_16_FoldAll) jf_17_FoldAll) jf_18_FoldAll) jf_19_FoldAll) jf_20_FoldAll) jf_21_FoldAll) jf_22) jf_23_FoldAll) jf_24) jf_25) jf_26) jf_27) jf_28_FoldAll) jf_29_FoldAll) jf_30_FoldAll) jf_31_FoldAll)
theorem row_FoldAll : Rows.FoldAllSaid :=
  OpenClaim.holds_of_wide 4 Go.Proofs.Tryz.f4 rfl rfl rfl rfl rfl rfl rfl ⟨rfl, rfl, rfl, rfl, rfl⟩ rfl rfl rfl rfl rfl (by kernel_rfl) Tryz.func4 jf_FoldAll
    (of_decide_eq_true (by kernel_rfl)) (by unfold Func.isWrapper; first | (rw [if_pos (by decide +kernel)]; kernel_rfl) | (rw [if_neg (by decide +kernel)]; exact ⟨rfl, rfl⟩))
    (fun os started H enc _ => lifted_FoldAll os started H enc)
end Go.Proofs.YtndiceggidmgkaaGreatDoor
