/-
  Lemmas (part 13) for: Exec: ExecRuns, ExecSteps, ExecLoss hold for all arguments; no condition.
-/
import Derived.Test.YtanlechpmkpbiaaGreatDoorExec12
import Derived.Test.YtanlechpmkpbiaaGreatDoorKeep7
set_option linter.all false
namespace Go.Proofs.YtanlechpmkpbiaaGreatDoor
open Go Go.ChangeShapes Go.WideShapes Go.ChangeAt Go.RowKit Go.V
set_option maxRecDepth 100000
theorem cJ2:(Rows.execStepsRow.wf (OpenSpec.ofChange Rows.execStepsSpec))=true:=by kernel_rfl
theorem cK1:(Go.Proofs.Tryz.f9.params.all (Go.Proofs.Tryz.prog.readableRec ·))=true:=by kernel_rfl
theorem cK2:(namedTie Go.Proofs.Tryz.prog Rows.execStepsRow.named Rows.execStepsSpec.vars)=true:=by kernel_rfl
theorem cK3:((Rows.execStepsRow.stops == []))=true:=by kernel_rfl
theorem cK4:((Rows.execStepsRow.knobs == []))=true:=by kernel_rfl
theorem cK5:((Rows.execStepsRow.inPlace == Go.Proofs.Tryz.prog.inPlace 9))=true:=by kernel_rfl
theorem cJe:((Rows.execStepsRow.unfollowed == Go.Proofs.Tryz.prog.unfollowed 9))=true:=by kernel_rfl
theorem cJf:((Rows.execStepsRow.recurses == Go.Proofs.Tryz.prog.recurses 9))=true:=by kernel_rfl
theorem cJg:((Rows.execStepsRow.named == Go.Proofs.Tryz.prog.varsNamed 9))=true:=by kernel_rfl
theorem cJh:((Rows.execStepsRow.maps == (Go.Proofs.Tryz.f9.params.toList++Rows.execStepsSpec.plain.varTypes Go.Proofs.Tryz.prog).any (Go.Proofs.Tryz.prog.mapsRec ·)))=true:=by kernel_rfl
theorem cJi:((Rows.execStepsRow.ifaces == (Go.Proofs.Tryz.f9.params.toList++Rows.execStepsSpec.plain.varTypes Go.Proofs.Tryz.prog).any (Go.Proofs.Tryz.prog.ifacesRec ·)))=true:=by kernel_rfl
theorem cJj:((Rows.execStepsRow.mapsOut == Go.Proofs.Tryz.prog.mapsAmong Go.Proofs.Tryz.f9.resultTypes.toList))=true:=by kernel_rfl
theorem cJk:((Rows.execStepsRow.loops == (Go.Proofs.Tryz.f9.params.toList++Rows.execStepsSpec.plain.varTypes Go.Proofs.Tryz.prog).any (Go.Proofs.Tryz.prog.loopsFrom ·)))=true:=by kernel_rfl
theorem cJl:((Rows.execStepsRow.wideKeys == (Go.Proofs.Tryz.f9.params.toList++Rows.execStepsSpec.plain.varTypes Go.Proofs.Tryz.prog++Go.Proofs.Tryz.f9.resultTypes.toList).any (Go.Proofs.Tryz.prog.wideKeysFrom ·)))=true:=by kernel_rfl
theorem cJm:(Rows.execStepsSpec.vars.all (Go.Proofs.Tryz.prog.varReadable ·))=true:=by kernel_rfl
theorem cJn:(Go.Proofs.Tryz.f9.resultTypes.all (λt=>Go.Proofs.Tryz.prog.readableRec t && decide (t<Go.Proofs.Tryz.prog.types.size)))=true:=by kernel_rfl
theorem cJo:((Rows.execStepsRow.ifacesOut == Go.Proofs.Tryz.f9.resultTypes.toList.any (Go.Proofs.Tryz.prog.ifacesRec ·)))=true:=by kernel_rfl
theorem cJp:((Rows.execStepsRow.loopsOut == Go.Proofs.Tryz.f9.resultTypes.toList.any (Go.Proofs.Tryz.prog.loopsFrom ·)))=true:=by kernel_rfl
theorem cJq:(Rows.execStepsRow.shortTexts.isNone)=true:=by kernel_rfl
theorem cJr:((Rows.execStepsRow.kinds == (if Rows.execStepsRow.domain.isEmpty then [] else Go.Proofs.Tryz.f9.params.toList.map λt=>match Go.Proofs.Tryz.prog.underlying t with|some (.int k)=>some k|_=>none)))=true:=by kernel_rfl
theorem cJs:((Rows.execStepsRow.pinned == Rows.execStepsRow.pinnedBy))=true:=by kernel_rfl
theorem cJt:((Rows.execStepsRow.veiled == (Go.Proofs.Tryz.f9.params.toList++Rows.execStepsSpec.plain.varTypes Go.Proofs.Tryz.prog++Go.Proofs.Tryz.f9.resultTypes.toList).any (Go.Proofs.Tryz.prog.veiledRec ·)))=true:=by kernel_rfl
theorem cJu:(Rows.execStepsRow.veiledFits Go.Proofs.Tryz.prog Go.Proofs.Tryz.f9.params.toList (Go.Proofs.Tryz.f9.params.toList++Rows.execStepsSpec.plain.varTypes Go.Proofs.Tryz.prog++Go.Proofs.Tryz.f9.resultTypes.toList))=true:=by kernel_rfl
theorem cL1:joinedFacts Go.Proofs.Tryz.prog 9 Go.Proofs.Tryz.f9 Rows.execStepsSpec Rows.execStepsRow=true:=by
 unfold joinedFacts
 exact (an (an (an (an (an (an (an (an (an (an (an (an (an (an (an (an (an (an (an (an (an (an (an (an (an (an (an (an (an (an (an cJ2 cB9) cCa) cK1) cK2) cK3) cCb) cK4) cCc) cK5) cJe) cJf) cJg) cJh) cJi) cJj) cJk) cJl) cJm) cJn) cJo) cJp) bW0) cJq) bW1) bW2) bW3) bW4) cJr) cJs) cJt) cJu)
theorem cLr:Rows.ExecStepsSaid:=
 OpenClaim.holds_of_wide 9 Go.Proofs.Tryz.f9 rfl rfl rfl rfl rfl rfl rfl ⟨rfl,rfl,rfl,rfl,rfl⟩ rfl rfl rfl rfl rfl (by kernel_rfl) Tryz.func9 cL1
  (of_decide_eq_true (by kernel_rfl)) (by unfold Func.isWrapper;first|(rw [if_pos (by decide +kernel)];kernel_rfl)|(rw [if_neg (by decide +kernel)];exact ⟨rfl,rfl⟩))
  (λos started H enc _=>cJa os started H enc)
end Go.Proofs.YtanlechpmkpbiaaGreatDoor
