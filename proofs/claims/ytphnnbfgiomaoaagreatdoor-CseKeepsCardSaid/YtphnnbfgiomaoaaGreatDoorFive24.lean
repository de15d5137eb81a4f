/-
  Lemmas (part 24) for: the statement.
-/
import Derived.Test.YtphnnbfgiomaoaaGreatDoorFive9
import Derived.Test.YtphnnbfgiomaoaaGreatDoorFive23
set_option linter.all false
namespace Go.Proofs.YtphnnbfgiomaoaaGreatDoor
open Go Go.ChangeShapes Go.WideShapes Go.ChangeAt Go.RowKit Go.V
set_option maxRecDepth 100000
theorem cTd:(Rows.cseKeepsRow.wf (OpenSpec.ofChange Rows.cseKeepsSpec))=true:=by kernel_rfl
theorem cTe:(Go.Proofs.Tryz.f9.params.all (Go.Proofs.Tryz.prog.readableRec ·))=true:=by kernel_rfl
theorem cTf:(namedTie Go.Proofs.Tryz.prog Rows.cseKeepsRow.named Rows.cseKeepsSpec.vars)=true:=by kernel_rfl
theorem cTg:((Rows.cseKeepsRow.stops == []))=true:=by kernel_rfl
theorem cTh:((Rows.cseKeepsRow.knobs == []))=true:=by kernel_rfl
theorem cTi:((Rows.cseKeepsRow.inPlace == Go.Proofs.Tryz.prog.inPlace 9))=true:=by kernel_rfl
theorem cR6:((Rows.cseKeepsRow.unfollowed == Go.Proofs.Tryz.prog.unfollowed 9))=true:=by kernel_rfl
theorem cR7:((Rows.cseKeepsRow.recurses == Go.Proofs.Tryz.prog.recurses 9))=true:=by kernel_rfl
theorem cR8:((Rows.cseKeepsRow.named == Go.Proofs.Tryz.prog.varsNamed 9))=true:=by kernel_rfl
theorem cR9:((Rows.cseKeepsRow.maps == (Go.Proofs.Tryz.f9.params.toList++Rows.cseKeepsSpec.plain.varTypes Go.Proofs.Tryz.prog).any (Go.Proofs.Tryz.prog.mapsRec ·)))=true:=by kernel_rfl
theorem cSa:((Rows.cseKeepsRow.ifaces == (Go.Proofs.Tryz.f9.params.toList++Rows.cseKeepsSpec.plain.varTypes Go.Proofs.Tryz.prog).any (Go.Proofs.Tryz.prog.ifacesRec ·)))=true:=by kernel_rfl
theorem cSb:((Rows.cseKeepsRow.mapsOut == Go.Proofs.Tryz.prog.mapsAmong Go.Proofs.Tryz.f9.resultTypes.toList))=true:=by kernel_rfl
theorem cSc:((Rows.cseKeepsRow.loops == (Go.Proofs.Tryz.f9.params.toList++Rows.cseKeepsSpec.plain.varTypes Go.Proofs.Tryz.prog).any (Go.Proofs.Tryz.prog.loopsFrom ·)))=true:=by kernel_rfl
theorem cSd:((Rows.cseKeepsRow.wideKeys == (Go.Proofs.Tryz.f9.params.toList++Rows.cseKeepsSpec.plain.varTypes Go.Proofs.Tryz.prog++Go.Proofs.Tryz.f9.resultTypes.toList).any (Go.Proofs.Tryz.prog.wideKeysFrom ·)))=true:=by kernel_rfl
theorem cSe:(Rows.cseKeepsSpec.vars.all (Go.Proofs.Tryz.prog.varReadable ·))=true:=by kernel_rfl
theorem cSf:(Go.Proofs.Tryz.f9.resultTypes.all (λt=>Go.Proofs.Tryz.prog.readableRec t && decide (t<Go.Proofs.Tryz.prog.types.size)))=true:=by kernel_rfl
theorem cSg:((Rows.cseKeepsRow.ifacesOut == Go.Proofs.Tryz.f9.resultTypes.toList.any (Go.Proofs.Tryz.prog.ifacesRec ·)))=true:=by kernel_rfl
theorem cSh:((Rows.cseKeepsRow.loopsOut == Go.Proofs.Tryz.f9.resultTypes.toList.any (Go.Proofs.Tryz.prog.loopsFrom ·)))=true:=by kernel_rfl
theorem cSi:(Rows.cseKeepsRow.shortTexts.isNone)=true:=by kernel_rfl
theorem cSj:((Rows.cseKeepsRow.kinds == (if Rows.cseKeepsRow.domain.isEmpty then [] else Go.Proofs.Tryz.f9.params.toList.map λt=>match Go.Proofs.Tryz.prog.underlying t with|some (.int k)=>some k|_=>none)))=true:=by kernel_rfl
theorem cSk:((Rows.cseKeepsRow.pinned == Rows.cseKeepsRow.pinnedBy))=true:=by kernel_rfl
theorem cSl:((Rows.cseKeepsRow.veiled == (Go.Proofs.Tryz.f9.params.toList++Rows.cseKeepsSpec.plain.varTypes Go.Proofs.Tryz.prog++Go.Proofs.Tryz.f9.resultTypes.toList).any (Go.Proofs.Tryz.prog.veiledRec ·)))=true:=by kernel_rfl
theorem cSm:(Rows.cseKeepsRow.veiledFits Go.Proofs.Tryz.prog Go.Proofs.Tryz.f9.params.toList (Go.Proofs.Tryz.f9.params.toList++Rows.cseKeepsSpec.plain.varTypes Go.Proofs.Tryz.prog++Go.Proofs.Tryz.f9.resultTypes.toList))=true:=by kernel_rfl
theorem cUy:joinedFacts Go.Proofs.Tryz.prog 9 Go.Proofs.Tryz.f9 Rows.cseKeepsSpec Rows.cseKeepsRow=true:=by
 unfold joinedFacts
 exact (an (an (an (an (an (an (an (an (an (an (an (an (an (an (an (an (an (an (an (an (an (an (an (an (an (an (an (an (an (an (an cTd cB9) cCa) cTe) cTf) cTg) cCb) cTh) cCc) cTi) cR6) cR7) cR8) cR9) cSa) cSb) cSc) cSd) cSe) cSf) cSg) cSh) bW0) cSi) bW1) bW2) bW3) bW4) cSj) cSk) cSl) cSm)
theorem cUb:Rows.CseKeepsSaid:=
 OpenClaim.holds_of_wide 9 Go.Proofs.Tryz.f9 rfl rfl rfl rfl rfl rfl rfl ⟨rfl,rfl,rfl,rfl,rfl⟩ rfl rfl rfl rfl rfl (by kernel_rfl) Tryz.func9 cUy
  (of_decide_eq_true (by kernel_rfl)) (by unfold Func.isWrapper;first|(rw [if_pos (by decide +kernel)];kernel_rfl)|(rw [if_neg (by decide +kernel)];exact ⟨rfl,rfl⟩))
  (λos started H enc _=>cRo os started H enc)
end Go.Proofs.YtphnnbfgiomaoaaGreatDoor
