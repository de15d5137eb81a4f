/-
  Lemmas (part 3) for: FoldOnce holds for all arguments; no condition.
-/
import Derived.Test.YtanlechpmkpbiaaGreatDoorOnce2
import Derived.Test.YtanlechpmkpbiaaGreatDoorKeep7
set_option linter.all false
namespace Go.Proofs.YtanlechpmkpbiaaGreatDoor
open Go Go.ChangeShapes Go.WideShapes Go.ChangeAt Go.RowKit Go.V
set_option maxRecDepth 100000
theorem cDx:(Rows.foldOnceRow.wf (OpenSpec.ofChange Rows.foldOnceSpec))=true:=by kernel_rfl
theorem cDy:(Go.Proofs.Tryz.f3.params.all (Go.Proofs.Tryz.prog.readableRec ·))=true:=by kernel_rfl
theorem cDz:(namedTie Go.Proofs.Tryz.prog Rows.foldOnceRow.named Rows.foldOnceSpec.vars)=true:=by kernel_rfl
theorem cD0:((Rows.foldOnceRow.stops == []))=true:=by kernel_rfl
theorem cD1:((Rows.foldOnceRow.knobs == []))=true:=by kernel_rfl
theorem cD2:((Rows.foldOnceRow.inPlace == Go.Proofs.Tryz.prog.inPlace 3))=true:=by kernel_rfl
theorem cDf:((Rows.foldOnceRow.unfollowed == Go.Proofs.Tryz.prog.unfollowed 3))=true:=by kernel_rfl
theorem cDg:((Rows.foldOnceRow.recurses == Go.Proofs.Tryz.prog.recurses 3))=true:=by kernel_rfl
theorem cDh:((Rows.foldOnceRow.named == Go.Proofs.Tryz.prog.varsNamed 3))=true:=by kernel_rfl
theorem cDi:((Rows.foldOnceRow.maps == (Go.Proofs.Tryz.f3.params.toList++Rows.foldOnceSpec.plain.varTypes Go.Proofs.Tryz.prog).any (Go.Proofs.Tryz.prog.mapsRec ·)))=true:=by kernel_rfl
theorem cDj:((Rows.foldOnceRow.ifaces == (Go.Proofs.Tryz.f3.params.toList++Rows.foldOnceSpec.plain.varTypes Go.Proofs.Tryz.prog).any (Go.Proofs.Tryz.prog.ifacesRec ·)))=true:=by kernel_rfl
theorem cDk:((Rows.foldOnceRow.mapsOut == Go.Proofs.Tryz.prog.mapsAmong Go.Proofs.Tryz.f3.resultTypes.toList))=true:=by kernel_rfl
theorem cDl:((Rows.foldOnceRow.loops == (Go.Proofs.Tryz.f3.params.toList++Rows.foldOnceSpec.plain.varTypes Go.Proofs.Tryz.prog).any (Go.Proofs.Tryz.prog.loopsFrom ·)))=true:=by kernel_rfl
theorem cDm:((Rows.foldOnceRow.wideKeys == (Go.Proofs.Tryz.f3.params.toList++Rows.foldOnceSpec.plain.varTypes Go.Proofs.Tryz.prog++Go.Proofs.Tryz.f3.resultTypes.toList).any (Go.Proofs.Tryz.prog.wideKeysFrom ·)))=true:=by kernel_rfl
theorem cDn:(Rows.foldOnceSpec.vars.all (Go.Proofs.Tryz.prog.varReadable ·))=true:=by kernel_rfl
theorem cDo:(Go.Proofs.Tryz.f3.resultTypes.all (λt=>Go.Proofs.Tryz.prog.readableRec t && decide (t<Go.Proofs.Tryz.prog.types.size)))=true:=by kernel_rfl
theorem cDp:((Rows.foldOnceRow.ifacesOut == Go.Proofs.Tryz.f3.resultTypes.toList.any (Go.Proofs.Tryz.prog.ifacesRec ·)))=true:=by kernel_rfl
theorem cDq:((Rows.foldOnceRow.loopsOut == Go.Proofs.Tryz.f3.resultTypes.toList.any (Go.Proofs.Tryz.prog.loopsFrom ·)))=true:=by kernel_rfl
theorem cDr:(Rows.foldOnceRow.shortTexts.isNone)=true:=by kernel_rfl
theorem cDs:((Rows.foldOnceRow.kinds == (if Rows.foldOnceRow.domain.isEmpty then [] else Go.Proofs.Tryz.f3.params.toList.map λt=>match Go.Proofs.Tryz.prog.underlying t with|some (.int k)=>some k|_=>none)))=true:=by kernel_rfl
theorem cDt:((Rows.foldOnceRow.pinned == Rows.foldOnceRow.pinnedBy))=true:=by kernel_rfl
theorem cDu:((Rows.foldOnceRow.veiled == (Go.Proofs.Tryz.f3.params.toList++Rows.foldOnceSpec.plain.varTypes Go.Proofs.Tryz.prog++Go.Proofs.Tryz.f3.resultTypes.toList).any (Go.Proofs.Tryz.prog.veiledRec ·)))=true:=by kernel_rfl
theorem cDv:(Rows.foldOnceRow.veiledFits Go.Proofs.Tryz.prog Go.Proofs.Tryz.f3.params.toList (Go.Proofs.Tryz.f3.params.toList++Rows.foldOnceSpec.plain.varTypes Go.Proofs.Tryz.prog++Go.Proofs.Tryz.f3.resultTypes.toList))=true:=by kernel_rfl
theorem cD8:joinedFacts Go.Proofs.Tryz.prog 3 Go.Proofs.Tryz.f3 Rows.foldOnceSpec Rows.foldOnceRow=true:=by
 unfold joinedFacts
 exact (an (an (an (an (an (an (an (an (an (an (an (an (an (an (an (an (an (an (an (an (an (an (an (an (an (an (an (an (an (an (an cDx cB9) cCa) cDy) cDz) cD0) cCb) cD1) cCc) cD2) cDf) cDg) cDh) cDi) cDj) cDk) cDl) cDm) cDn) cDo) cDp) cDq) bW0) cDr) bW1) bW2) bW3) bW4) cDs) cDt) cDu) cDv)
theorem cD6:Rows.FoldOnceSaid:=
 OpenClaim.holds_of_wide 3 Go.Proofs.Tryz.f3 rfl rfl rfl rfl rfl rfl rfl ⟨rfl,rfl,rfl,rfl,rfl⟩ rfl rfl rfl rfl rfl (by kernel_rfl) Tryz.func3 cD8
  (of_decide_eq_true (by kernel_rfl)) (by unfold Func.isWrapper;first|(rw [if_pos (by decide +kernel)];kernel_rfl)|(rw [if_neg (by decide +kernel)];exact ⟨rfl,rfl⟩))
  (λos started H enc _=>cDe os started H enc)
end Go.Proofs.YtanlechpmkpbiaaGreatDoor
