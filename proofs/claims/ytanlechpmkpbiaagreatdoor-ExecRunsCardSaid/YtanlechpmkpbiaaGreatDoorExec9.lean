/-
  Lemmas (part 9) for: Exec: ExecRuns, ExecSteps, ExecLoss hold for all arguments; no condition.
-/
import Derived.Test.YtanlechpmkpbiaaGreatDoorExec8
import Derived.Test.YtanlechpmkpbiaaGreatDoorKeep7
set_option linter.all false
namespace Go.Proofs.YtanlechpmkpbiaaGreatDoor
open Go Go.ChangeShapes Go.WideShapes Go.ChangeAt Go.RowKit Go.V
set_option maxRecDepth 100000
theorem cLe:(Rows.execRunsRow.wf (OpenSpec.ofChange Rows.execRunsSpec))=true:=by kernel_rfl
theorem cLg:(Go.Proofs.Tryz.f8.params.all (Go.Proofs.Tryz.prog.readableRec ·))=true:=by kernel_rfl
theorem cLi:(namedTie Go.Proofs.Tryz.prog Rows.execRunsRow.named Rows.execRunsSpec.vars)=true:=by kernel_rfl
theorem cLk:((Rows.execRunsRow.stops == []))=true:=by kernel_rfl
theorem cLm:((Rows.execRunsRow.knobs == []))=true:=by kernel_rfl
theorem cLo:((Rows.execRunsRow.inPlace == Go.Proofs.Tryz.prog.inPlace 8))=true:=by kernel_rfl
theorem cJ4:((Rows.execRunsRow.unfollowed == Go.Proofs.Tryz.prog.unfollowed 8))=true:=by kernel_rfl
theorem cJ6:((Rows.execRunsRow.recurses == Go.Proofs.Tryz.prog.recurses 8))=true:=by kernel_rfl
theorem cJ8:((Rows.execRunsRow.named == Go.Proofs.Tryz.prog.varsNamed 8))=true:=by kernel_rfl
theorem cKa:((Rows.execRunsRow.maps == (Go.Proofs.Tryz.f8.params.toList++Rows.execRunsSpec.plain.varTypes Go.Proofs.Tryz.prog).any (Go.Proofs.Tryz.prog.mapsRec ·)))=true:=by kernel_rfl
theorem cKc:((Rows.execRunsRow.ifaces == (Go.Proofs.Tryz.f8.params.toList++Rows.execRunsSpec.plain.varTypes Go.Proofs.Tryz.prog).any (Go.Proofs.Tryz.prog.ifacesRec ·)))=true:=by kernel_rfl
theorem cKe:((Rows.execRunsRow.mapsOut == Go.Proofs.Tryz.prog.mapsAmong Go.Proofs.Tryz.f8.resultTypes.toList))=true:=by kernel_rfl
theorem cKg:((Rows.execRunsRow.loops == (Go.Proofs.Tryz.f8.params.toList++Rows.execRunsSpec.plain.varTypes Go.Proofs.Tryz.prog).any (Go.Proofs.Tryz.prog.loopsFrom ·)))=true:=by kernel_rfl
theorem cKi:((Rows.execRunsRow.wideKeys == (Go.Proofs.Tryz.f8.params.toList++Rows.execRunsSpec.plain.varTypes Go.Proofs.Tryz.prog++Go.Proofs.Tryz.f8.resultTypes.toList).any (Go.Proofs.Tryz.prog.wideKeysFrom ·)))=true:=by kernel_rfl
theorem cKk:(Rows.execRunsSpec.vars.all (Go.Proofs.Tryz.prog.varReadable ·))=true:=by kernel_rfl
theorem cKm:(Go.Proofs.Tryz.f8.resultTypes.all (λt=>Go.Proofs.Tryz.prog.readableRec t && decide (t<Go.Proofs.Tryz.prog.types.size)))=true:=by kernel_rfl
theorem cKo:((Rows.execRunsRow.ifacesOut == Go.Proofs.Tryz.f8.resultTypes.toList.any (Go.Proofs.Tryz.prog.ifacesRec ·)))=true:=by kernel_rfl
theorem cKq:((Rows.execRunsRow.loopsOut == Go.Proofs.Tryz.f8.resultTypes.toList.any (Go.Proofs.Tryz.prog.loopsFrom ·)))=true:=by kernel_rfl
theorem cKs:(Rows.execRunsRow.shortTexts.isNone)=true:=by kernel_rfl
theorem cKu:((Rows.execRunsRow.kinds == (if Rows.execRunsRow.domain.isEmpty then [] else Go.Proofs.Tryz.f8.params.toList.map λt=>match Go.Proofs.Tryz.prog.underlying t with|some (.int k)=>some k|_=>none)))=true:=by kernel_rfl
theorem cKw:((Rows.execRunsRow.pinned == Rows.execRunsRow.pinnedBy))=true:=by kernel_rfl
theorem cKy:((Rows.execRunsRow.veiled == (Go.Proofs.Tryz.f8.params.toList++Rows.execRunsSpec.plain.varTypes Go.Proofs.Tryz.prog++Go.Proofs.Tryz.f8.resultTypes.toList).any (Go.Proofs.Tryz.prog.veiledRec ·)))=true:=by kernel_rfl
theorem cK0:(Rows.execRunsRow.veiledFits Go.Proofs.Tryz.prog Go.Proofs.Tryz.f8.params.toList (Go.Proofs.Tryz.f8.params.toList++Rows.execRunsSpec.plain.varTypes Go.Proofs.Tryz.prog++Go.Proofs.Tryz.f8.resultTypes.toList))=true:=by kernel_rfl
theorem cL9:joinedFacts Go.Proofs.Tryz.prog 8 Go.Proofs.Tryz.f8 Rows.execRunsSpec Rows.execRunsRow=true:=by
 unfold joinedFacts
 exact (an (an (an (an (an (an (an (an (an (an (an (an (an (an (an (an (an (an (an (an (an (an (an (an (an (an (an (an (an (an (an cLe cB9) cCa) cLg) cLi) cLk) cCb) cLm) cCc) cLo) cJ4) cJ6) cJ8) cKa) cKc) cKe) cKg) cKi) cKk) cKm) cKo) cKq) bW0) cKs) bW1) bW2) bW3) bW4) cKu) cKw) cKy) cK0)
theorem cL3:Rows.ExecRunsSaid:=
 OpenClaim.holds_of_wide 8 Go.Proofs.Tryz.f8 rfl rfl rfl rfl rfl rfl rfl ⟨rfl,rfl,rfl,rfl,rfl⟩ rfl rfl rfl rfl rfl (by kernel_rfl) Tryz.func8 cL9
  (of_decide_eq_true (by kernel_rfl)) (by unfold Func.isWrapper;first|(rw [if_pos (by decide +kernel)];kernel_rfl)|(rw [if_neg (by decide +kernel)];exact ⟨rfl,rfl⟩))
  (λos started H enc _=>cJx os started H enc)
end Go.Proofs.YtanlechpmkpbiaaGreatDoor
