/-
  Lemmas (part 14) for: EvalNode, EvalSums, EvalBehind and EvalOrder hold for all arguments; no condition.
-/
import Derived.Test.YtndiceggidmgkaaGreatDoorEval13
import Derived.Test.YtndiceggidmgkaaGreatDoorFold7
set_option linter.all false
namespace Go.Proofs.YtndiceggidmgkaaGreatDoor
open Go Go.ChangeShapes Go.WideShapes Go.ChangeAt Go.RowKit Go.V
set_option maxRecDepth 100000
theorem jf_0_EvalBehind : (Rows.evalBehindRow.wf (OpenSpec.ofChange Rows.evalBehindSpec)) = true := by kernel_rfl
theorem jf_3_EvalBehind : (Go.Proofs.Tryz.f9.params.all (Go.Proofs.Tryz.prog.readableRec ·)) = true := by kernel_rfl
theorem jf_4_EvalBehind : (namedTie Go.Proofs.Tryz.prog Rows.evalBehindRow.named Rows.evalBehindSpec.vars) = true := by kernel_rfl
theorem jf_5_EvalBehind : ((Rows.evalBehindRow.stops == [])) = true := by kernel_rfl
theorem jf_7_EvalBehind : ((Rows.evalBehindRow.knobs == [])) = true := by kernel_rfl
theorem jf_9_EvalBehind : ((Rows.evalBehindRow.inPlace == Go.Proofs.Tryz.prog.inPlace 9)) = true := by kernel_rfl
theorem jf_10_EvalBehind : ((Rows.evalBehindRow.unfollowed == Go.Proofs.Tryz.prog.unfollowed 9)) = true := by kernel_rfl
theorem jf_11_EvalBehind : ((Rows.evalBehindRow.recurses == Go.Proofs.Tryz.prog.recurses 9)) = true := by kernel_rfl
theorem jf_12_EvalBehind : ((Rows.evalBehindRow.named == Go.Proofs.Tryz.prog.varsNamed 9)) = true := by kernel_rfl
theorem jf_13_EvalBehind : ((Rows.evalBehindRow.maps == (Go.Proofs.Tryz.f9.params.toList ++ Rows.evalBehindSpec.plain.varTypes Go.Proofs.Tryz.prog).any (Go.Proofs.Tryz.prog.mapsRec ·))) = true := by kernel_rfl
theorem jf_14_EvalBehind : ((Rows.evalBehindRow.ifaces == (Go.Proofs.Tryz.f9.params.toList ++ Rows.evalBehindSpec.plain.varTypes Go.Proofs.Tryz.prog).any (Go.Proofs.Tryz.prog.ifacesRec ·))) = true := by kernel_rfl
theorem jf_15_EvalBehind : ((Rows.evalBehindRow.mapsOut == Go.Proofs.Tryz.prog.mapsAmong Go.Proofs.Tryz.f9.resultTypes.toList)) = true := by kernel_rfl
theorem jf_16_EvalBehind : ((Rows.evalBehindRow.loops == (Go.Proofs.Tryz.f9.params.toList ++ Rows.evalBehindSpec.plain.varTypes Go.Proofs.Tryz.prog).any (Go.Proofs.Tryz.prog.loopsFrom ·))) = true := by kernel_rfl
theorem jf_17_EvalBehind : ((Rows.evalBehindRow.wideKeys == (Go.Proofs.Tryz.f9.params.toList ++ Rows.evalBehindSpec.plain.varTypes Go.Proofs.Tryz.prog ++ Go.Proofs.Tryz.f9.resultTypes.toList).any (Go.Proofs.Tryz.prog.wideKeysFrom ·))) = true := by kernel_rfl
theorem jf_18_EvalBehind : (Rows.evalBehindSpec.vars.all (Go.Proofs.Tryz.prog.varReadable ·)) = true := by kernel_rfl
theorem jf_19_EvalBehind : (Go.Proofs.Tryz.f9.resultTypes.all (fun t => Go.Proofs.Tryz.prog.readableRec t && decide (t < Go.Proofs.Tryz.prog.types.size))) = true := by kernel_rfl
theorem jf_20_EvalBehind : ((Rows.evalBehindRow.ifacesOut == Go.Proofs.Tryz.f9.resultTypes.toList.any (Go.Proofs.Tryz.prog.ifacesRec ·))) = true := by kernel_rfl
theorem jf_21_EvalBehind : ((Rows.evalBehindRow.loopsOut == Go.Proofs.Tryz.f9.resultTypes.toList.any (Go.Proofs.Tryz.prog.loopsFrom ·))) = true := by kernel_rfl
theorem jf_23_EvalBehind : (Rows.evalBehindRow.shortTexts.isNone) = true := by kernel_rfl
theorem jf_28_EvalBehind : ((Rows.evalBehindRow.kinds == (if Rows.evalBehindRow.domain.isEmpty then [] else Go.Proofs.Tryz.f9.params.toList.map fun t => match Go.Proofs.Tryz.prog.underlying t with | some (.int k) => some k | _ => none))) = true := by kernel_rfl
theorem jf_29_EvalBehind : ((Rows.evalBehindRow.pinned == Rows.evalBehindRow.pinnedBy)) = true := by kernel_rfl
theorem jf_30_EvalBehind : ((Rows.evalBehindRow.veiled == (Go.Proofs.Tryz.f9.params.toList ++ Rows.evalBehindSpec.plain.varTypes Go.Proofs.Tryz.prog ++ Go.Proofs.Tryz.f9.resultTypes.toList).any (Go.Proofs.Tryz.prog.veiledRec ·))) = true := by kernel_rfl
theorem jf_31_EvalBehind : (Rows.evalBehindRow.veiledFits Go.Proofs.Tryz.prog Go.Proofs.Tryz.f9.params.toList (Go.Proofs.Tryz.f9.params.toList ++ Rows.evalBehindSpec.plain.varTypes Go.Proofs.Tryz.prog ++ Go.Proofs.Tryz.f9.resultTypes.toList)) = true := by kernel_rfl
theorem jf_EvalBehind : joinedFacts Go.Proofs.Tryz.prog 9 Go.Proofs.Tryz.f9 Rows.evalBehindSpec Rows.evalBehindRow = true := by
  unfold joinedFacts
  exact (an (an (an (an (an (an (an (an (an (an (an (an (an (an (an (an (an (an (an (an (an (an (an (an (an (an (an (an (an (an (an jf_0_EvalBehind jf_1) jf_2) jf_3_EvalBehind) jf_4_EvalBehind) jf_5_EvalBehind) jf_6) jf_7_EvalBehind) jf_8) jf_9_EvalBehind) jf_10_EvalBehind) jf_11_EvalBehind) jf_12_EvalBehind) jf_13_EvalBehind) jf_14_EvalBehind) jf_15_EvalBehind) jf_16_EvalBehind) jf_17_EvalBehind) jf_18_EvalBehind) jf_19_EvalBehind) jf_20_EvalBehind) jf_21_EvalBehind) jf_22) jf_23_EvalBehind) jf_24) jf_25) jf_26) jf_27) jf_28_EvalBehind) jf_29_EvalBehind) jf_30_EvalBehind) jf_31_EvalBehind)
theorem row_EvalBehind : Rows.EvalBehindSaid :=
  OpenClaim.holds_of_wide 9 Go.Proofs.Tryz.f9 rfl rfl rfl rfl rfl rfl rfl ⟨rfl, rfl, rfl, rfl, rfl⟩ rfl rfl rfl rfl rfl (by kernel_rfl) Tryz.func9 jf_EvalBehind
    (of_decide_eq_true (by kernel_rfl)) (by unfold Func.isWrapper; first | (rw [if_pos (by decide +kernel)]; kernel_rfl) | (rw [if_neg (by decide +kernel)]; exact ⟨rfl, rfl⟩))
    (fun os started H enc _ => lifted_EvalBehind os started H enc)
end Go.Proofs.YtndiceggidmgkaaGreatDoor
