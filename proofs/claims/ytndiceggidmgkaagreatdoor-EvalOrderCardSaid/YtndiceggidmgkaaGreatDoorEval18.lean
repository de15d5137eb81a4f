/-
  Lemmas (part 18) for: EvalNode, EvalSums, EvalBehind and EvalOrder hold for all arguments; no condition.
-/
import Derived.Test.YtndiceggidmgkaaGreatDoorEval17
import Derived.Test.YtndiceggidmgkaaGreatDoorFold7
set_option linter.all false
namespace Go.Proofs.YtndiceggidmgkaaGreatDoor
open Go Go.ChangeShapes Go.WideShapes Go.ChangeAt Go.RowKit Go.V
set_option maxRecDepth 100000
theorem jf_0_EvalOrder : (Rows.evalOrderRow.wf (OpenSpec.ofChange Rows.evalOrderSpec)) = true := by kernel_rfl
theorem jf_3_EvalOrder : (Go.Proofs.Tryz.f11.params.all (Go.Proofs.Tryz.prog.readableRec ·)) = true := by kernel_rfl
theorem jf_4_EvalOrder : (namedTie Go.Proofs.Tryz.prog Rows.evalOrderRow.named Rows.evalOrderSpec.vars) = true := by kernel_rfl
theorem jf_5_EvalOrder : ((Rows.evalOrderRow.stops == [])) = true := by kernel_rfl
theorem jf_7_EvalOrder : ((Rows.evalOrderRow.knobs == [])) = true := by kernel_rfl
theorem jf_9_EvalOrder : ((Rows.evalOrderRow.inPlace == Go.Proofs.Tryz.prog.inPlace 11)) = true := by kernel_rfl
theorem jf_10_EvalOrder : ((Rows.evalOrderRow.unfollowed == Go.Proofs.Tryz.prog.unfollowed 11)) = true := by kernel_rfl
theorem jf_11_EvalOrder : ((Rows.evalOrderRow.recurses == Go.Proofs.Tryz.prog.recurses 11)) = true := by kernel_rfl
theorem jf_12_EvalOrder : ((Rows.evalOrderRow.named == Go.Proofs.Tryz.prog.varsNamed 11)) = true := by kernel_rfl
theorem jf_13_EvalOrder : ((Rows.evalOrderRow.maps == (Go.Proofs.Tryz.f11.params.toList ++ Rows.evalOrderSpec.plain.varTypes Go.Proofs.Tryz.prog).any (Go.Proofs.Tryz.prog.mapsRec ·))) = true := by kernel_rfl
theorem jf_14_EvalOrder : ((Rows.evalOrderRow.ifaces == (Go.Proofs.Tryz.f11.params.toList ++ Rows.evalOrderSpec.plain.varTypes Go.Proofs.Tryz.prog).any (Go.Proofs.Tryz.prog.ifacesRec ·))) = true := by kernel_rfl
theorem jf_15_EvalOrder : ((Rows.evalOrderRow.mapsOut == Go.Proofs.Tryz.prog.mapsAmong Go.Proofs.Tryz.f11.resultTypes.toList)) = true := by kernel_rfl
theorem jf_16_EvalOrder : ((Rows.evalOrderRow.loops == (Go.Proofs.Tryz.f11.params.toList ++ Rows.evalOrderSpec.plain.varTypes Go.Proofs.Tryz.prog).any (Go.Proofs.Tryz.prog.loopsFrom ·))) = true := by kernel_rfl
theorem jf_17_EvalOrder : ((Rows.evalOrderRow.wideKeys == (Go.Proofs.Tryz.f11.params.toList ++ Rows.evalOrderSpec.plain.varTypes Go.Proofs.Tryz.prog ++ Go.Proofs.Tryz.f11.resultTypes.toList).any (Go.Proofs.Tryz.prog.wideKeysFrom ·))) = true := by kernel_rfl
theorem jf_18_EvalOrder : (Rows.evalOrderSpec.vars.all (Go.Proofs.Tryz.prog.varReadable ·)) = true := by kernel_rfl
theorem jf_19_EvalOrder : (Go.Proofs.Tryz.f11.resultTypes.all (fun t => Go.Proofs.Tryz.prog.readableRec t && decide (t < Go.Proofs.Tryz.prog.types.size))) = true := by kernel_rfl
theorem jf_20_EvalOrder : ((Rows.evalOrderRow.ifacesOut == Go.Proofs.Tryz.f11.resultTypes.toList.any (Go.Proofs.Tryz.prog.ifacesRec ·))) = true := by kernel_rfl
theorem jf_21_EvalOrder : ((Rows.evalOrderRow.loopsOut == Go.Proofs.Tryz.f11.resultTypes.toList.any (Go.Proofs.Tryz.prog.loopsFrom ·))) = true := by kernel_rfl
theorem jf_23_EvalOrder : (Rows.evalOrderRow.shortTexts.isNone) = true := by kernel_rfl
theorem jf_28_EvalOrder : ((Rows.evalOrderRow.kinds == (if Rows.evalOrderRow.domain.isEmpty then [] else Go.Proofs.Tryz.f11.params.toList.map fun t => match Go.Proofs.Tryz.prog.underlying t with | some (.int k) => some k | _ => none))) = true := by kernel_rfl
theorem jf_29_EvalOrder : ((Rows.evalOrderRow.pinned == Rows.evalOrderRow.pinnedBy)) = true := by kernel_rfl
theorem jf_30_EvalOrder : ((Rows.evalOrderRow.veiled == (Go.Proofs.Tryz.f11.params.toList ++ Rows.evalOrderSpec.plain.varTypes Go.Proofs.Tryz.prog ++ Go.Proofs.Tryz.f11.resultTypes.toList).any (Go.Proofs.Tryz.prog.veiledRec ·))) = true := by kernel_rfl
theorem jf_31_EvalOrder : (Rows.evalOrderRow.veiledFits Go.Proofs.Tryz.prog Go.Proofs.Tryz.f11.params.toList (Go.Proofs.Tryz.f11.params.toList ++ Rows.evalOrderSpec.plain.varTypes Go.Proofs.Tryz.prog ++ Go.Proofs.Tryz.f11.resultTypes.toList)) = true := by kernel_rfl
theorem jf_EvalOrder : joinedFacts Go.Proofs.Tryz.prog 11 Go.Proofs.Tryz.f11 Rows.evalOrderSpec Rows.evalOrderRow = true := by
  unfold joinedFacts
  exact (an (an (an (an (an (an (an (an (an (an (an (an (an (an (an (an (an (an (an (an (an (an (an (an (an (an (an (an (an (an (an jf_0_EvalOrder jf_1) jf_2) jf_3_EvalOrder) jf_4_EvalOrder) jf_5_EvalOrder) jf_6) jf_7_EvalOrder) jf_8) jf_9_EvalOrder) jf_10_EvalOrder) jf_11_EvalOrder) jf_12_EvalOrder) jf_13_EvalOrder) jf_14_EvalOrder) jf_15_EvalOrder) jf_16_EvalOrder) jf_17_EvalOrder) jf_18_EvalOrder) jf_19_EvalOrder) jf_20_EvalOrder) jf_21_EvalOrder) jf_22) jf_23_EvalOrder) jf_24) jf_25) jf_26) jf_27) jf_28_EvalOrder) jf_29_EvalOrder) jf_30_EvalOrder) jf_31_EvalOrder)
theorem row_EvalOrder : Rows.EvalOrderSaid :=
  OpenClaim.holds_of_wide 11 Go.Proofs.Tryz.f11 rfl rfl rfl rfl rfl rfl rfl ⟨rfl, rfl, rfl, rfl, rfl⟩ rfl rfl rfl rfl rfl (by kernel_rfl) Tryz.func11 jf_EvalOrder
    (of_decide_eq_true (by kernel_rfl)) (by unfold Func.isWrapper; first | (rw [if_pos (by decide +kernel)]; kernel_rfl) | (rw [if_neg (by decide +kernel)]; exact ⟨rfl, rfl⟩))
    (fun os started H enc _ => lifted_EvalOrder os started H enc)
end Go.Proofs.YtndiceggidmgkaaGreatDoor
