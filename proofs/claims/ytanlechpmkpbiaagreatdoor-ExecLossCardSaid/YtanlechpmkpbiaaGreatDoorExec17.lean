/-
  Lemmas (part 17) for: Exec: ExecRuns, ExecSteps, ExecLoss hold for all arguments; no condition.
-/
import Derived.Test.YtanlechpmkpbiaaGreatDoorExec16
import Derived.Test.YtanlechpmkpbiaaGreatDoorKeep7
set_option linter.all false
namespace Go.Proofs.YtanlechpmkpbiaaGreatDoor
open Go Go.ChangeShapes Go.WideShapes Go.ChangeAt Go.RowKit Go.V
set_option maxRecDepth 100000
theorem cLd:(Rows.execLossRow.wf (OpenSpec.ofChange Rows.execLossSpec))=true:=by kernel_rfl
theorem cLf:(Go.Proofs.Tryz.f10.params.all (Go.Proofs.Tryz.prog.readableRec ·))=true:=by kernel_rfl
theorem cLh:(namedTie Go.Proofs.Tryz.prog Rows.execLossRow.named Rows.execLossSpec.vars)=true:=by kernel_rfl
theorem cLj:((Rows.execLossRow.stops == []))=true:=by kernel_rfl
theorem cLl:((Rows.execLossRow.knobs == []))=true:=by kernel_rfl
theorem cLn:((Rows.execLossRow.inPlace == Go.Proofs.Tryz.prog.inPlace 10))=true:=by kernel_rfl
theorem cJ3:((Rows.execLossRow.unfollowed == Go.Proofs.Tryz.prog.unfollowed 10))=true:=by kernel_rfl
theorem cJ5:((Rows.execLossRow.recurses == Go.Proofs.Tryz.prog.recurses 10))=true:=by kernel_rfl
theorem cJ7:((Rows.execLossRow.named == Go.Proofs.Tryz.prog.varsNamed 10))=true:=by kernel_rfl
theorem cJ9:((Rows.execLossRow.maps == (Go.Proofs.Tryz.f10.params.toList++Rows.execLossSpec.plain.varTypes Go.Proofs.Tryz.prog).any (Go.Proofs.Tryz.prog.mapsRec ·)))=true:=by kernel_rfl
theorem cKb:((Rows.execLossRow.ifaces == (Go.Proofs.Tryz.f10.params.toList++Rows.execLossSpec.plain.varTypes Go.Proofs.Tryz.prog).any (Go.Proofs.Tryz.prog.ifacesRec ·)))=true:=by kernel_rfl
theorem cKd:((Rows.execLossRow.mapsOut == Go.Proofs.Tryz.prog.mapsAmong Go.Proofs.Tryz.f10.resultTypes.toList))=true:=by kernel_rfl
theorem cKf:((Rows.execLossRow.loops == (Go.Proofs.Tryz.f10.params.toList++Rows.execLossSpec.plain.varTypes Go.Proofs.Tryz.prog).any (Go.Proofs.Tryz.prog.loopsFrom ·)))=true:=by kernel_rfl
theorem cKh:((Rows.execLossRow.wideKeys == (Go.Proofs.Tryz.f10.params.toList++Rows.execLossSpec.plain.varTypes Go.Proofs.Tryz.prog++Go.Proofs.Tryz.f10.resultTypes.toList).any (Go.Proofs.Tryz.prog.wideKeysFrom ·)))=true:=by kernel_rfl
theorem cKj:(Rows.execLossSpec.vars.all (Go.Proofs.Tryz.prog.varReadable ·))=true:=by kernel_rfl
theorem cKl:(Go.Proofs.Tryz.f10.resultTypes.all (λt=>Go.Proofs.Tryz.prog.readableRec t && decide (t<Go.Proofs.Tryz.prog.types.size)))=true:=by kernel_rfl
theorem cKn:((Rows.execLossRow.ifacesOut == Go.Proofs.Tryz.f10.resultTypes.toList.any (Go.Proofs.Tryz.prog.ifacesRec ·)))=true:=by kernel_rfl
theorem cKp:((Rows.execLossRow.loopsOut == Go.Proofs.Tryz.f10.resultTypes.toList.any (Go.Proofs.Tryz.prog.loopsFrom ·)))=true:=by kernel_rfl
theorem cKr:(Rows.execLossRow.shortTexts.isNone)=true:=by kernel_rfl
theorem cKt:((Rows.execLossRow.kinds == (if Rows.execLossRow.domain.isEmpty then [] else Go.Proofs.Tryz.f10.params.toList.map λt=>match Go.Proofs.Tryz.prog.underlying t with|some (.int k)=>some k|_=>none)))=true:=by kernel_rfl
theorem cKv:((Rows.execLossRow.pinned == Rows.execLossRow.pinnedBy))=true:=by kernel_rfl
theorem cKx:((Rows.execLossRow.veiled == (Go.Proofs.Tryz.f10.params.toList++Rows.execLossSpec.plain.varTypes Go.Proofs.Tryz.prog++Go.Proofs.Tryz.f10.resultTypes.toList).any (Go.Proofs.Tryz.prog.veiledRec ·)))=true:=by kernel_rfl
theorem cKz:(Rows.execLossRow.veiledFits Go.Proofs.Tryz.prog Go.Proofs.Tryz.f10.params.toList (Go.Proofs.Tryz.f10.params.toList++Rows.execLossSpec.plain.varTypes Go.Proofs.Tryz.prog++Go.Proofs.Tryz.f10.resultTypes.toList))=true:=by kernel_rfl
theorem cL8:joinedFacts Go.Proofs.Tryz.prog 10 Go.Proofs.Tryz.f10 Rows.execLossSpec Rows.execLossRow=true:=by
 unfold joinedFacts
 exact (an (an (an (an (an (an (an (an (an (an (an (an (an (an (an (an (an (an (an (an (an (an (an (an (an (an (an (an (an (an (an cLd cB9) cCa) cLf) cLh) cLj) cCb) cLl) cCc) cLn) cJ3) cJ5) cJ7) cJ9) cKb) cKd) cKf) cKh) cKj) cKl) cKn) cKp) bW0) cKr) bW1) bW2) bW3) bW4) cKt) cKv) cKx) cKz)
theorem cL2:Rows.ExecLossSaid:=
 OpenClaim.holds_of_wide 10 Go.Proofs.Tryz.f10 rfl rfl rfl rfl rfl rfl rfl ⟨rfl,rfl,rfl,rfl,rfl⟩ rfl rfl rfl rfl rfl (by kernel_rfl) Tryz.func10 cL8
  (of_decide_eq_true (by kernel_rfl)) (by unfold Func.isWrapper;first|(rw [if_pos (by decide +kernel)];kernel_rfl)|(rw [if_neg (by decide +kernel)];exact ⟨rfl,rfl⟩))
  (λos started H enc _=>cJw os started H enc)
end Go.Proofs.YtanlechpmkpbiaaGreatDoor
