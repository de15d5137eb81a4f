/-
  Lemmas (part 6) for: EvalNode, EvalSums, EvalBehind and EvalOrder hold for all arguments; no condition.
-/
import Derived.Test.YtndiceggidmgkaaGreatDoorEval5
import Derived.Test.YtndiceggidmgkaaGreatDoorFold7
set_option linter.all false
namespace Go.Proofs.YtndiceggidmgkaaGreatDoor
open Go Go.ChangeShapes Go.WideShapes Go.ChangeAt Go.RowKit Go.V
set_option maxRecDepth 100000
theorem jf_0_EvalNode : (Rows.evalNodeRow.wf (OpenSpec.ofChange Rows.evalNodeSpec)) = true := by kernel_rfl
theorem jf_3_EvalNode : (Go.Proofs.Tryz.f8.params.all (Go.Proofs.Tryz.prog.readableRec ·)) = true := by kernel_rfl
theorem jf_4_EvalNode : (namedTie Go.Proofs.Tryz.prog Rows.evalNodeRow.named Rows.evalNodeSpec.vars) = true := by kernel_rfl
theorem jf_5_EvalNode : ((Rows.evalNodeRow.stops == [])) = true := by kernel_rfl
theorem jf_7_EvalNode : ((Rows.evalNodeRow.knobs == [])) = true := by kernel_rfl
theorem jf_9_EvalNode : ((Rows.evalNodeRow.inPlace == Go.Proofs.Tryz.prog.inPlace 8)) = true := by kernel_rfl
theorem jf_10_EvalNode : ((Rows.evalNodeRow.unfollowed == Go.Proofs.Tryz.prog.unfollowed 8)) = true := by kernel_rfl
theorem jf_11_EvalNode : ((Rows.evalNodeRow.recurses == Go.Proofs.Tryz.prog.recurses 8)) = true := by kernel_rfl
theorem jf_12_EvalNode : ((Rows.evalNodeRow.named == Go.Proofs.Tryz.prog.varsNamed 8)) = true := by kernel_rfl
theorem jf_13_EvalNode : ((Rows.evalNodeRow.maps == (Go.Proofs.Tryz.f8.params.toList ++ Rows.evalNodeSpec.plain.varTypes Go.Proofs.Tryz.prog).any (Go.Proofs.Tryz.prog.mapsRec ·))) = true := by kernel_rfl
theorem jf_14_EvalNode : ((Rows.evalNodeRow.ifaces == (Go.Proofs.Tryz.f8.params.toList ++ Rows.evalNodeSpec.plain.varTypes Go.Proofs.Tryz.prog).any (Go.Proofs.Tryz.prog.ifacesRec ·))) = true := by kernel_rfl
theorem jf_15_EvalNode : ((Rows.evalNodeRow.mapsOut == Go.Proofs.Tryz.prog.mapsAmong Go.Proofs.Tryz.f8.resultTypes.toList)) = true := by kernel_rfl
theorem jf_16_EvalNode : ((Rows.evalNodeRow.loops == (Go.Proofs.Tryz.f8.params.toList ++ Rows.evalNodeSpec.plain.varTypes Go.Proofs.Tryz.prog).any (Go.Proofs.Tryz.prog.loopsFrom ·))) = true := by kernel_rfl
theorem jf_17_EvalNode : ((Rows.evalNodeRow.wideKeys == (Go.Proofs.Tryz.f8.params.toList ++ Rows.evalNodeSpec.plain.varTypes Go.Proofs.Tryz.prog ++ Go.Proofs.Tryz.f8.resultTypes.toList).any (Go.Proofs.Tryz.prog.wideKeysFrom ·))) = true := by kernel_rfl
theorem jf_18_EvalNode : (Rows.evalNodeSpec.vars.all (Go.Proofs.Tryz.prog.varReadable ·)) = true := by kernel_rfl
theorem jf_19_EvalNode : (Go.Proofs.Tryz.f8.resultTypes.all (fun t => Go.Proofs.Tryz.prog.readableRec t && decide (t < Go.Proofs.Tryz.prog.types.size))) = true := by kernel_rfl
theorem jf_20_EvalNode : ((Rows.evalNodeRow.ifacesOut == Go.Proofs.Tryz.f8.resultTypes.toList.any (Go.Proofs.Tryz.prog.ifacesRec ·))) = true := by kernel_rfl
theorem jf_21_EvalNode : ((Rows.evalNodeRow.loopsOut == Go.Proofs.Tryz.f8.resultTypes.toList.any (Go.Proofs.Tryz.prog.loopsFrom ·))) = true := by kernel_rfl
theorem jf_23_EvalNode : (Rows.evalNodeRow.shortTexts.isNone) = true := by kernel_rfl
theorem jf_28_EvalNode : ((Rows.evalNodeRow.kinds == (if Rows.evalNodeRow.domain.isEmpty then [] else Go.Proofs.Tryz.f8.params.toList.map fun t => match Go.Proofs.Tryz.prog.underlying t with | some (.int k) => some k | _ => none))) = true := by kernel_rfl
theorem jf_29_EvalNode : ((Rows.evalNodeRow.pinned == Rows.evalNodeRow.pinnedBy)) = true := by kernel_rfl
theorem jf_30_EvalNode : ((Rows.evalNodeRow.veiled == (Go.Proofs.Tryz.f8.params.toList ++ Rows.evalNodeSpec.plain.varTypes Go.Proofs.Tryz.prog ++ Go.Proofs.Tryz.f8.resultTypes.toList).any (Go.Proofs.Tryz.prog.veiledRec ·))) = true := by kernel_rfl
theorem jf_31_EvalNode : (Rows.evalNodeRow.veiledFits Go.Proofs.Tryz.prog Go.Proofs.Tryz.f8.params.toList (Go.Proofs.Tryz.f8.params.toList ++ Rows.evalNodeSpec.plain.varTypes Go.Proofs.Tryz.prog ++ Go.Proofs.Tryz.f8.resultTypes.toList)) = true := by kernel_rfl
theorem jf_EvalNode : joinedFacts Go.Proofs.Tryz.prog 8 Go.Proofs.Tryz.f8 Rows.evalNodeSpec Rows.evalNodeRow = true := by
  unfold joinedFacts
  exact (an (an (an (an (an (an (an (an (an (an (an (an (an (an (an (an (an (an (an (an (an (an (an (an (an (an (an (an (an (an (an jf_0_EvalNode jf_1) jf_2) jf_3_EvalNode) jf_4_EvalNode) jf_5_EvalNode) jf_6) jf_7_EvalNode) jf_8) jf_9_EvalNode) jf_10_EvalNode) jf_11_EvalNode) jf_12_EvalNode) jf_13_EvalNode) jf_14_EvalNode) jf_15_EvalNode) jf_16_EvalNode) jf_17_EvalNode) jf_18_EvalNode) jf_19_EvalNode) jf_20_EvalNode) jf_21_EvalNode) jf_22) jf_23_EvalNode) jf_24) jf_25) jf_26) jf_27) jf_28_EvalNode) jf_29_EvalNode) jf_30_EvalNode) jf_31_EvalNode)
theorem row_EvalNode : Rows.EvalNodeSaid :=
  OpenClaim.holds_of_wide 8 Go.Proofs.Tryz.f8 rfl rfl rfl rfl rfl rfl rfl ⟨rfl, rfl, rfl, rfl, rfl⟩ rfl rfl rfl rfl rfl (by kernel_rfl) Tryz.func8 jf_EvalNode
    (of_decide_eq_true (by kernel_rfl)) (by unfold Func.isWrapper; first | (rw [if_pos (by decide +kernel)]; kernel_rfl) | (rw [if_neg (by decide +kernel)]; exact ⟨rfl, rfl⟩))
    (fun os started H enc _ => lifted_EvalNode os started H enc)
end Go.Proofs.YtndiceggidmgkaaGreatDoor
