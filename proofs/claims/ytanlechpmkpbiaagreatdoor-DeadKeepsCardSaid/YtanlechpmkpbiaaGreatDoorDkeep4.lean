/-
  Lemmas (part 4) for: DeadKeeps holds for all arguments; no condition.
-/
import Derived.Test.YtanlechpmkpbiaaGreatDoorDkeep3
import Derived.Test.YtanlechpmkpbiaaGreatDoorKeep7
set_option linter.all false
namespace Go.Proofs.YtanlechpmkpbiaaGreatDoor
open Go Go.ChangeShapes Go.WideShapes Go.ChangeAt Go.RowKit Go.V
set_option maxRecDepth 100000
theorem cF4:(Rows.deadKeepsRow.wf (OpenSpec.ofChange Rows.deadKeepsSpec))=true:=by kernel_rfl
theorem cF5:(Go.Proofs.Tryz.f7.params.all (Go.Proofs.Tryz.prog.readableRec ·))=true:=by kernel_rfl
theorem cF6:(namedTie Go.Proofs.Tryz.prog Rows.deadKeepsRow.named Rows.deadKeepsSpec.vars)=true:=by kernel_rfl
theorem cF7:((Rows.deadKeepsRow.stops == []))=true:=by kernel_rfl
theorem cF8:((Rows.deadKeepsRow.knobs == []))=true:=by kernel_rfl
theorem cF9:((Rows.deadKeepsRow.inPlace == Go.Proofs.Tryz.prog.inPlace 7))=true:=by kernel_rfl
theorem cFh:((Rows.deadKeepsRow.unfollowed == Go.Proofs.Tryz.prog.unfollowed 7))=true:=by kernel_rfl
theorem cFi:((Rows.deadKeepsRow.recurses == Go.Proofs.Tryz.prog.recurses 7))=true:=by kernel_rfl
theorem cFj:((Rows.deadKeepsRow.named == Go.Proofs.Tryz.prog.varsNamed 7))=true:=by kernel_rfl
theorem cFk:((Rows.deadKeepsRow.maps == (Go.Proofs.Tryz.f7.params.toList++Rows.deadKeepsSpec.plain.varTypes Go.Proofs.Tryz.prog).any (Go.Proofs.Tryz.prog.mapsRec ·)))=true:=by kernel_rfl
theorem cFl:((Rows.deadKeepsRow.ifaces == (Go.Proofs.Tryz.f7.params.toList++Rows.deadKeepsSpec.plain.varTypes Go.Proofs.Tryz.prog).any (Go.Proofs.Tryz.prog.ifacesRec ·)))=true:=by kernel_rfl
theorem cFm:((Rows.deadKeepsRow.mapsOut == Go.Proofs.Tryz.prog.mapsAmong Go.Proofs.Tryz.f7.resultTypes.toList))=true:=by kernel_rfl
theorem cFn:((Rows.deadKeepsRow.loops == (Go.Proofs.Tryz.f7.params.toList++Rows.deadKeepsSpec.plain.varTypes Go.Proofs.Tryz.prog).any (Go.Proofs.Tryz.prog.loopsFrom ·)))=true:=by kernel_rfl
theorem cFo:((Rows.deadKeepsRow.wideKeys == (Go.Proofs.Tryz.f7.params.toList++Rows.deadKeepsSpec.plain.varTypes Go.Proofs.Tryz.prog++Go.Proofs.Tryz.f7.resultTypes.toList).any (Go.Proofs.Tryz.prog.wideKeysFrom ·)))=true:=by kernel_rfl
theorem cFp:(Rows.deadKeepsSpec.vars.all (Go.Proofs.Tryz.prog.varReadable ·))=true:=by kernel_rfl
theorem cFq:(Go.Proofs.Tryz.f7.resultTypes.all (λt=>Go.Proofs.Tryz.prog.readableRec t && decide (t<Go.Proofs.Tryz.prog.types.size)))=true:=by kernel_rfl
theorem cFr:((Rows.deadKeepsRow.ifacesOut == Go.Proofs.Tryz.f7.resultTypes.toList.any (Go.Proofs.Tryz.prog.ifacesRec ·)))=true:=by kernel_rfl
theorem cFs:((Rows.deadKeepsRow.loopsOut == Go.Proofs.Tryz.f7.resultTypes.toList.any (Go.Proofs.Tryz.prog.loopsFrom ·)))=true:=by kernel_rfl
theorem cFt:(Rows.deadKeepsRow.shortTexts.isNone)=true:=by kernel_rfl
theorem cFu:((Rows.deadKeepsRow.kinds == (if Rows.deadKeepsRow.domain.isEmpty then [] else Go.Proofs.Tryz.f7.params.toList.map λt=>match Go.Proofs.Tryz.prog.underlying t with|some (.int k)=>some k|_=>none)))=true:=by kernel_rfl
theorem cFv:((Rows.deadKeepsRow.pinned == Rows.deadKeepsRow.pinnedBy))=true:=by kernel_rfl
theorem cFw:((Rows.deadKeepsRow.veiled == (Go.Proofs.Tryz.f7.params.toList++Rows.deadKeepsSpec.plain.varTypes Go.Proofs.Tryz.prog++Go.Proofs.Tryz.f7.resultTypes.toList).any (Go.Proofs.Tryz.prog.veiledRec ·)))=true:=by kernel_rfl
theorem cFx:(Rows.deadKeepsRow.veiledFits Go.Proofs.Tryz.prog Go.Proofs.Tryz.f7.params.toList (Go.Proofs.Tryz.f7.params.toList++Rows.deadKeepsSpec.plain.varTypes Go.Proofs.Tryz.prog++Go.Proofs.Tryz.f7.resultTypes.toList))=true:=by kernel_rfl
theorem cGm:joinedFacts Go.Proofs.Tryz.prog 7 Go.Proofs.Tryz.f7 Rows.deadKeepsSpec Rows.deadKeepsRow=true:=by
 unfold joinedFacts
 exact (an (an (an (an (an (an (an (an (an (an (an (an (an (an (an (an (an (an (an (an (an (an (an (an (an (an (an (an (an (an (an cF4 cB9) cCa) cF5) cF6) cF7) cCb) cF8) cCc) cF9) cFh) cFi) cFj) cFk) cFl) cFm) cFn) cFo) cFp) cFq) cFr) cFs) bW0) cFt) bW1) bW2) bW3) bW4) cFu) cFv) cFw) cFx)
theorem cGj:Rows.DeadKeepsSaid:=
 OpenClaim.holds_of_wide 7 Go.Proofs.Tryz.f7 rfl rfl rfl rfl rfl rfl rfl ⟨rfl,rfl,rfl,rfl,rfl⟩ rfl rfl rfl rfl rfl (by kernel_rfl) Tryz.func7 cGm
  (of_decide_eq_true (by kernel_rfl)) (by unfold Func.isWrapper;first|(rw [if_pos (by decide +kernel)];kernel_rfl)|(rw [if_neg (by decide +kernel)];exact ⟨rfl,rfl⟩))
  (λos started H enc _=>cE9 os started H enc)
end Go.Proofs.YtanlechpmkpbiaaGreatDoor
