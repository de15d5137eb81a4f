/-
  Lemmas (part 32) for: the statement.
-/
import Derived.Test.YtphnnbfgiomaoaaGreatDoorFive9
import Derived.Test.YtphnnbfgiomaoaaGreatDoorFive31
set_option linter.all false
namespace Go.Proofs.YtphnnbfgiomaoaaGreatDoor
open Go Go.ChangeShapes Go.WideShapes Go.ChangeAt Go.RowKit Go.V
set_option maxRecDepth 100000
theorem cR3:(Rows.execKeepsRow.wf (OpenSpec.ofChange Rows.execKeepsSpec))=true:=by kernel_rfl
theorem cSn:(Go.Proofs.Tryz.f13.params.all (Go.Proofs.Tryz.prog.readableRec ·))=true:=by kernel_rfl
theorem cSq:(namedTie Go.Proofs.Tryz.prog Rows.execKeepsRow.named Rows.execKeepsSpec.vars)=true:=by kernel_rfl
theorem cSt:((Rows.execKeepsRow.stops == []))=true:=by kernel_rfl
theorem cSw:((Rows.execKeepsRow.knobs == []))=true:=by kernel_rfl
theorem cSz:((Rows.execKeepsRow.inPlace == Go.Proofs.Tryz.prog.inPlace 13))=true:=by kernel_rfl
theorem cP4:((Rows.execKeepsRow.unfollowed == Go.Proofs.Tryz.prog.unfollowed 13))=true:=by kernel_rfl
theorem cP7:((Rows.execKeepsRow.recurses == Go.Proofs.Tryz.prog.recurses 13))=true:=by kernel_rfl
theorem cQa:((Rows.execKeepsRow.named == Go.Proofs.Tryz.prog.varsNamed 13))=true:=by kernel_rfl
theorem cQd:((Rows.execKeepsRow.maps == (Go.Proofs.Tryz.f13.params.toList++Rows.execKeepsSpec.plain.varTypes Go.Proofs.Tryz.prog).any (Go.Proofs.Tryz.prog.mapsRec ·)))=true:=by kernel_rfl
theorem cQg:((Rows.execKeepsRow.ifaces == (Go.Proofs.Tryz.f13.params.toList++Rows.execKeepsSpec.plain.varTypes Go.Proofs.Tryz.prog).any (Go.Proofs.Tryz.prog.ifacesRec ·)))=true:=by kernel_rfl
theorem cQj:((Rows.execKeepsRow.mapsOut == Go.Proofs.Tryz.prog.mapsAmong Go.Proofs.Tryz.f13.resultTypes.toList))=true:=by kernel_rfl
theorem cQm:((Rows.execKeepsRow.loops == (Go.Proofs.Tryz.f13.params.toList++Rows.execKeepsSpec.plain.varTypes Go.Proofs.Tryz.prog).any (Go.Proofs.Tryz.prog.loopsFrom ·)))=true:=by kernel_rfl
theorem cQp:((Rows.execKeepsRow.wideKeys == (Go.Proofs.Tryz.f13.params.toList++Rows.execKeepsSpec.plain.varTypes Go.Proofs.Tryz.prog++Go.Proofs.Tryz.f13.resultTypes.toList).any (Go.Proofs.Tryz.prog.wideKeysFrom ·)))=true:=by kernel_rfl
theorem cQs:(Rows.execKeepsSpec.vars.all (Go.Proofs.Tryz.prog.varReadable ·))=true:=by kernel_rfl
theorem cQv:(Go.Proofs.Tryz.f13.resultTypes.all (λt=>Go.Proofs.Tryz.prog.readableRec t && decide (t<Go.Proofs.Tryz.prog.types.size)))=true:=by kernel_rfl
theorem cQy:((Rows.execKeepsRow.ifacesOut == Go.Proofs.Tryz.f13.resultTypes.toList.any (Go.Proofs.Tryz.prog.ifacesRec ·)))=true:=by kernel_rfl
theorem cQ1:((Rows.execKeepsRow.loopsOut == Go.Proofs.Tryz.f13.resultTypes.toList.any (Go.Proofs.Tryz.prog.loopsFrom ·)))=true:=by kernel_rfl
theorem cQ4:(Rows.execKeepsRow.shortTexts.isNone)=true:=by kernel_rfl
theorem cQ7:((Rows.execKeepsRow.kinds == (if Rows.execKeepsRow.domain.isEmpty then [] else Go.Proofs.Tryz.f13.params.toList.map λt=>match Go.Proofs.Tryz.prog.underlying t with|some (.int k)=>some k|_=>none)))=true:=by kernel_rfl
theorem cRa:((Rows.execKeepsRow.pinned == Rows.execKeepsRow.pinnedBy))=true:=by kernel_rfl
theorem cRd:((Rows.execKeepsRow.veiled == (Go.Proofs.Tryz.f13.params.toList++Rows.execKeepsSpec.plain.varTypes Go.Proofs.Tryz.prog++Go.Proofs.Tryz.f13.resultTypes.toList).any (Go.Proofs.Tryz.prog.veiledRec ·)))=true:=by kernel_rfl
theorem cRg:(Rows.execKeepsRow.veiledFits Go.Proofs.Tryz.prog Go.Proofs.Tryz.f13.params.toList (Go.Proofs.Tryz.f13.params.toList++Rows.execKeepsSpec.plain.varTypes Go.Proofs.Tryz.prog++Go.Proofs.Tryz.f13.resultTypes.toList))=true:=by kernel_rfl
theorem cT3:joinedFacts Go.Proofs.Tryz.prog 13 Go.Proofs.Tryz.f13 Rows.execKeepsSpec Rows.execKeepsRow=true:=by
 unfold joinedFacts
 exact (an (an (an (an (an (an (an (an (an (an (an (an (an (an (an (an (an (an (an (an (an (an (an (an (an (an (an (an (an (an (an cR3 cB9) cCa) cSn) cSq) cSt) cCb) cSw) cCc) cSz) cP4) cP7) cQa) cQd) cQg) cQj) cQm) cQp) cQs) cQv) cQy) cQ1) bW0) cQ4) bW1) bW2) bW3) bW4) cQ7) cRa) cRd) cRg)
theorem cTp:Rows.ExecKeepsSaid:=
 OpenClaim.holds_of_wide 13 Go.Proofs.Tryz.f13 rfl rfl rfl rfl rfl rfl rfl ⟨rfl,rfl,rfl,rfl,rfl⟩ rfl rfl rfl rfl rfl (by kernel_rfl) Tryz.func13 cT3
  (of_decide_eq_true (by kernel_rfl)) (by unfold Func.isWrapper;first|(rw [if_pos (by decide +kernel)];kernel_rfl)|(rw [if_neg (by decide +kernel)];exact ⟨rfl,rfl⟩))
  (λos started H enc _=>cPv os started H enc)
end Go.Proofs.YtphnnbfgiomaoaaGreatDoor
