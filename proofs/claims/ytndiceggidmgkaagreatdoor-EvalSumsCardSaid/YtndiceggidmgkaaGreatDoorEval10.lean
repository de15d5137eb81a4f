/-
  Lemmas (part 10) for: EvalNode, EvalSums, EvalBehind and EvalOrder hold for all arguments; no condition.
-/
import Derived.Test.YtndiceggidmgkaaGreatDoorEval9
import Derived.Test.YtndiceggidmgkaaGreatDoorFold7
set_option linter.all false
namespace Go.Proofs.YtndiceggidmgkaaGreatDoor
open Go Go.ChangeShapes Go.WideShapes Go.ChangeAt Go.RowKit Go.V
set_option maxRecDepth 100000
theorem jf_0_EvalSums : (Rows.evalSumsRow.wf (OpenSpec.ofChange Rows.evalSumsSpec)) = true := by kernel_rfl
theorem jf_3_EvalSums : (Go.Proofs.Tryz.f12.params.all (Go.Proofs.Tryz.prog.readableRec ·)) = true := by kernel_rfl
theorem jf_4_EvalSums : (namedTie Go.Proofs.Tryz.prog Rows.evalSumsRow.named Rows.evalSumsSpec.vars) = true := by kernel_rfl
theorem jf_5_EvalSums : ((Rows.evalSumsRow.stops == [])) = true := by kernel_rfl
theorem jf_7_EvalSums : ((Rows.evalSumsRow.knobs == [])) = true := by kernel_rfl
theorem jf_9_EvalSums : ((Rows.evalSumsRow.inPlace == Go.Proofs.Tryz.prog.inPlace 12)) = true := by kernel_rfl
theorem jf_10_EvalSums : ((Rows.evalSumsRow.unfollowed == Go.Proofs.Tryz.prog.unfollowed 12)) = true := by kernel_rfl
theorem jf_11_EvalSums : ((Rows.evalSumsRow.recurses == Go.Proofs.Tryz.prog.recurses 12)) = true := by kernel_rfl
theorem jf_12_EvalSums : ((Rows.evalSumsRow.named == Go.Proofs.Tryz.prog.varsNamed 12)) = true := by kernel_rfl
theorem jf_13_EvalSums : ((Rows.evalSumsRow.maps == (Go.Proofs.Tryz.f12.params.toList ++ Rows.evalSumsSpec.plain.varTypes Go.Proofs.Tryz.prog).any (Go.Proofs.Tryz.prog.mapsRec ·))) = true := by kernel_rfl
theorem jf_14_EvalSums : ((Rows.evalSumsRow.ifaces == (Go.Proofs.Tryz.f12.params.toList ++ Rows.evalSumsSpec.plain.varTypes Go.Proofs.Tryz.prog).any (Go.Proofs.Tryz.prog.ifacesRec ·))) = true := by kernel_rfl
theorem jf_15_EvalSums : ((Rows.evalSumsRow.mapsOut == Go.Proofs.Tryz.prog.mapsAmong Go.Proofs.Tryz.f12.resultTypes.toList)) = true := by kernel_rfl
theorem jf_16_EvalSums : ((Rows.evalSumsRow.loops == (Go.Proofs.Tryz.f12.params.toList ++ Rows.evalSumsSpec.plain.varTypes Go.Proofs.Tryz.prog).any (Go.Proofs.Tryz.prog.loopsFrom ·))) = true := by kernel_rfl
theorem jf_17_EvalSums : ((Rows.evalSumsRow.wideKeys == (Go.Proofs.Tryz.f12.params.toList ++ Rows.evalSumsSpec.plain.varTypes Go.Proofs.Tryz.prog ++ Go.Proofs.Tryz.f12.resultTypes.toList).any (Go.Proofs.Tryz.prog.wideKeysFrom ·))) = true := by kernel_rfl
theorem jf_18_EvalSums : (Rows.evalSumsSpec.vars.all (Go.Proofs.Tryz.prog.varReadable ·)) = true := by kernel_rfl
theorem jf_19_EvalSums : (Go.Proofs.Tryz.f12.resultTypes.all (fun t => Go.Proofs.Tryz.prog.readableRec t && decide (t < Go.Proofs.Tryz.prog.types.size))) = true := by kernel_rfl
theorem jf_20_EvalSums : ((Rows.evalSumsRow.ifacesOut == Go.Proofs.Tryz.f12.resultTypes.toList.any (Go.Proofs.Tryz.prog.ifacesRec ·))) = true := by kernel_rfl
theorem jf_21_EvalSums : ((Rows.evalSumsRow.loopsOut == Go.Proofs.Tryz.f12.resultTypes.toList.any (Go.Proofs.Tryz.prog.loopsFrom ·))) = true := by kernel_rfl
theorem jf_23_EvalSums : (Rows.evalSumsRow.shortTexts.isNone) = true := by kernel_rfl
theorem jf_28_EvalSums : ((Rows.evalSumsRow.kinds == (if Rows.evalSumsRow.domain.isEmpty then [] else Go.Proofs.Tryz.f12.params.toList.map fun t => match Go.Proofs.Tryz.prog.underlying t with | some (.int k) => some k | _ => none))) = true := by kernel_rfl
theorem jf_29_EvalSums : ((Rows.evalSumsRow.pinned == Rows.evalSumsRow.pinnedBy)) = true := by kernel_rfl
theorem jf_30_EvalSums : ((Rows.evalSumsRow.veiled == (Go.Proofs.Tryz.f12.params.toList ++ Rows.evalSumsSpec.plain.varTypes Go.Proofs.Tryz.prog ++ Go.Proofs.Tryz.f12.resultTypes.toList).any (Go.Proofs.Tryz.prog.veiledRec ·))) = true := by kernel_rfl
theorem jf_31_EvalSums : (Rows.evalSumsRow.veiledFits Go.Proofs.Tryz.prog Go.Proofs.Tryz.f12.params.toList (Go.Proofs.Tryz.f12.params.toList ++ Rows.evalSumsSpec.plain.varTypes Go.Proofs.Tryz.prog ++ Go.Proofs.Tryz.f12.resultTypes.toList)) = true := by kernel_rfl
theorem jf_EvalSums : joinedFacts Go.Proofs.Tryz.prog 12 Go.Proofs.Tryz.f12 Rows.evalSumsSpec Rows.evalSumsRow = true := by
  unfold joinedFacts
  exact (an (an (an (an (an (an (an (an (an (an (an (an (an (an (an (an (an (an (an (an (an (an (an (an (an (an (an (an (an (an (an jf_0_EvalSums jf_1) jf_2) jf_3_EvalSums) jf_4_EvalSums) jf_5_EvalSums) jf_6) jf_7_EvalSums) jf_8) jf_9_EvalSums) jf_10_EvalSums) jf_11_EvalSums) jf_12_EvalSums) jf_13_EvalSums) jf_14_EvalSums) jf_15_EvalSums) jf_16_EvalSums) jf_17_EvalSums) jf_18_EvalSums) jf_19_EvalSums) jf_20_EvalSums) jf_21_EvalSums) jf_22) jf_23_EvalSums) jf_24) jf_25) jf_26) jf_27) jf_28_EvalSums) jf_29_EvalSums) jf_30_EvalSums) jf_31_EvalSums)
theorem row_EvalSums : Rows.EvalSumsSaid :=
  OpenClaim.holds_of_wide 12 Go.Proofs.Tryz.f12 rfl rfl rfl rfl rfl rfl rfl ⟨rfl, rfl, rfl, rfl, rfl⟩ rfl rfl rfl rfl rfl (by kernel_rfl) Tryz.func12 jf_EvalSums
    (of_decide_eq_true (by kernel_rfl)) (by unfold Func.isWrapper; first | (rw [if_pos (by decide +kernel)]; kernel_rfl) | (rw [if_neg (by decide +kernel)]; exact ⟨rfl, rfl⟩))
    (fun os started H enc _ => lifted_EvalSums os started H enc)
end Go.Proofs.YtndiceggidmgkaaGreatDoor
