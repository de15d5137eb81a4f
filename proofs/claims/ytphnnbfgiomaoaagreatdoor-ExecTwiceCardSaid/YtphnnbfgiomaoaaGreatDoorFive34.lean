/-
  Lemmas (part 34) for: the statement.
-/
import Derived.Test.YtphnnbfgiomaoaaGreatDoorFive9
import Derived.Test.YtphnnbfgiomaoaaGreatDoorFive31
set_option linter.all false
namespace Go.Proofs.YtphnnbfgiomaoaaGreatDoor
open Go Go.ChangeShapes Go.WideShapes Go.ChangeAt Go.RowKit Go.V
set_option maxRecDepth 100000
theorem cR5:(Rows.execTwiceRow.wf (OpenSpec.ofChange Rows.execTwiceSpec))=true:=by kernel_rfl
theorem cSp:(Go.Proofs.Tryz.f11.params.all (Go.Proofs.Tryz.prog.readableRec ·))=true:=by kernel_rfl
theorem cSs:(namedTie Go.Proofs.Tryz.prog Rows.execTwiceRow.named Rows.execTwiceSpec.vars)=true:=by kernel_rfl
theorem cSv:((Rows.execTwiceRow.stops == []))=true:=by kernel_rfl
theorem cSy:((Rows.execTwiceRow.knobs == []))=true:=by kernel_rfl
theorem cS1:((Rows.execTwiceRow.inPlace == Go.Proofs.Tryz.prog.inPlace 11))=true:=by kernel_rfl
theorem cP6:((Rows.execTwiceRow.unfollowed == Go.Proofs.Tryz.prog.unfollowed 11))=true:=by kernel_rfl
theorem cP9:((Rows.execTwiceRow.recurses == Go.Proofs.Tryz.prog.recurses 11))=true:=by kernel_rfl
theorem cQc:((Rows.execTwiceRow.named == Go.Proofs.Tryz.prog.varsNamed 11))=true:=by kernel_rfl
theorem cQf:((Rows.execTwiceRow.maps == (Go.Proofs.Tryz.f11.params.toList++Rows.execTwiceSpec.plain.varTypes Go.Proofs.Tryz.prog).any (Go.Proofs.Tryz.prog.mapsRec ·)))=true:=by kernel_rfl
theorem cQi:((Rows.execTwiceRow.ifaces == (Go.Proofs.Tryz.f11.params.toList++Rows.execTwiceSpec.plain.varTypes Go.Proofs.Tryz.prog).any (Go.Proofs.Tryz.prog.ifacesRec ·)))=true:=by kernel_rfl
theorem cQl:((Rows.execTwiceRow.mapsOut == Go.Proofs.Tryz.prog.mapsAmong Go.Proofs.Tryz.f11.resultTypes.toList))=true:=by kernel_rfl
theorem cQo:((Rows.execTwiceRow.loops == (Go.Proofs.Tryz.f11.params.toList++Rows.execTwiceSpec.plain.varTypes Go.Proofs.Tryz.prog).any (Go.Proofs.Tryz.prog.loopsFrom ·)))=true:=by kernel_rfl
theorem cQr:((Rows.execTwiceRow.wideKeys == (Go.Proofs.Tryz.f11.params.toList++Rows.execTwiceSpec.plain.varTypes Go.Proofs.Tryz.prog++Go.Proofs.Tryz.f11.resultTypes.toList).any (Go.Proofs.Tryz.prog.wideKeysFrom ·)))=true:=by kernel_rfl
theorem cQu:(Rows.execTwiceSpec.vars.all (Go.Proofs.Tryz.prog.varReadable ·))=true:=by kernel_rfl
theorem cQx:(Go.Proofs.Tryz.f11.resultTypes.all (λt=>Go.Proofs.Tryz.prog.readableRec t && decide (t<Go.Proofs.Tryz.prog.types.size)))=true:=by kernel_rfl
theorem cQ0:((Rows.execTwiceRow.ifacesOut == Go.Proofs.Tryz.f11.resultTypes.toList.any (Go.Proofs.Tryz.prog.ifacesRec ·)))=true:=by kernel_rfl
theorem cQ3:((Rows.execTwiceRow.loopsOut == Go.Proofs.Tryz.f11.resultTypes.toList.any (Go.Proofs.Tryz.prog.loopsFrom ·)))=true:=by kernel_rfl
theorem cQ6:(Rows.execTwiceRow.shortTexts.isNone)=true:=by kernel_rfl
theorem cQ9:((Rows.execTwiceRow.kinds == (if Rows.execTwiceRow.domain.isEmpty then [] else Go.Proofs.Tryz.f11.params.toList.map λt=>match Go.Proofs.Tryz.prog.underlying t with|some (.int k)=>some k|_=>none)))=true:=by kernel_rfl
theorem cRc:((Rows.execTwiceRow.pinned == Rows.execTwiceRow.pinnedBy))=true:=by kernel_rfl
theorem cRf:((Rows.execTwiceRow.veiled == (Go.Proofs.Tryz.f11.params.toList++Rows.execTwiceSpec.plain.varTypes Go.Proofs.Tryz.prog++Go.Proofs.Tryz.f11.resultTypes.toList).any (Go.Proofs.Tryz.prog.veiledRec ·)))=true:=by kernel_rfl
theorem cRi:(Rows.execTwiceRow.veiledFits Go.Proofs.Tryz.prog Go.Proofs.Tryz.f11.params.toList (Go.Proofs.Tryz.f11.params.toList++Rows.execTwiceSpec.plain.varTypes Go.Proofs.Tryz.prog++Go.Proofs.Tryz.f11.resultTypes.toList))=true:=by kernel_rfl
theorem cT5:joinedFacts Go.Proofs.Tryz.prog 11 Go.Proofs.Tryz.f11 Rows.execTwiceSpec Rows.execTwiceRow=true:=by
 unfold joinedFacts
 exact (an (an (an (an (an (an (an (an (an (an (an (an (an (an (an (an (an (an (an (an (an (an (an (an (an (an (an (an (an (an (an cR5 cB9) cCa) cSp) cSs) cSv) cCb) cSy) cCc) cS1) cP6) cP9) cQc) cQf) cQi) cQl) cQo) cQr) cQu) cQx) cQ0) cQ3) bW0) cQ6) bW1) bW2) bW3) bW4) cQ9) cRc) cRf) cRi)
theorem cTr:Rows.ExecTwiceSaid:=
 OpenClaim.holds_of_wide 11 Go.Proofs.Tryz.f11 rfl rfl rfl rfl rfl rfl rfl ⟨rfl,rfl,rfl,rfl,rfl⟩ rfl rfl rfl rfl rfl (by kernel_rfl) Tryz.func11 cT5
  (of_decide_eq_true (by kernel_rfl)) (by unfold Func.isWrapper;first|(rw [if_pos (by decide +kernel)];kernel_rfl)|(rw [if_neg (by decide +kernel)];exact ⟨rfl,rfl⟩))
  (λos started H enc _=>cPx os started H enc)
end Go.Proofs.YtphnnbfgiomaoaaGreatDoor
