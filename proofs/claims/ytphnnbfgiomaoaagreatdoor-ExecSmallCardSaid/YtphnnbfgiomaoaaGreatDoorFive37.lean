/-
  Lemmas (part 37) for: the statement.
-/
import Derived.Test.YtphnnbfgiomaoaaGreatDoorFive9
import Derived.Test.YtphnnbfgiomaoaaGreatDoorFive36
set_option linter.all false
namespace Go.Proofs.YtphnnbfgiomaoaaGreatDoor
open Go Go.ChangeShapes Go.WideShapes Go.ChangeAt Go.RowKit Go.V
set_option maxRecDepth 100000
theorem cR4:(Rows.execSmallRow.wf (OpenSpec.ofChange Rows.execSmallSpec))=true:=by kernel_rfl
theorem cSo:(Go.Proofs.Tryz.f12.params.all (Go.Proofs.Tryz.prog.readableRec ·))=true:=by kernel_rfl
theorem cSr:(namedTie Go.Proofs.Tryz.prog Rows.execSmallRow.named Rows.execSmallSpec.vars)=true:=by kernel_rfl
theorem cSu:((Rows.execSmallRow.stops == []))=true:=by kernel_rfl
theorem cSx:((Rows.execSmallRow.knobs == []))=true:=by kernel_rfl
theorem cS0:((Rows.execSmallRow.inPlace == Go.Proofs.Tryz.prog.inPlace 12))=true:=by kernel_rfl
theorem cP5:((Rows.execSmallRow.unfollowed == Go.Proofs.Tryz.prog.unfollowed 12))=true:=by kernel_rfl
theorem cP8:((Rows.execSmallRow.recurses == Go.Proofs.Tryz.prog.recurses 12))=true:=by kernel_rfl
theorem cQb:((Rows.execSmallRow.named == Go.Proofs.Tryz.prog.varsNamed 12))=true:=by kernel_rfl
theorem cQe:((Rows.execSmallRow.maps == (Go.Proofs.Tryz.f12.params.toList++Rows.execSmallSpec.plain.varTypes Go.Proofs.Tryz.prog).any (Go.Proofs.Tryz.prog.mapsRec ·)))=true:=by kernel_rfl
theorem cQh:((Rows.execSmallRow.ifaces == (Go.Proofs.Tryz.f12.params.toList++Rows.execSmallSpec.plain.varTypes Go.Proofs.Tryz.prog).any (Go.Proofs.Tryz.prog.ifacesRec ·)))=true:=by kernel_rfl
theorem cQk:((Rows.execSmallRow.mapsOut == Go.Proofs.Tryz.prog.mapsAmong Go.Proofs.Tryz.f12.resultTypes.toList))=true:=by kernel_rfl
theorem cQn:((Rows.execSmallRow.loops == (Go.Proofs.Tryz.f12.params.toList++Rows.execSmallSpec.plain.varTypes Go.Proofs.Tryz.prog).any (Go.Proofs.Tryz.prog.loopsFrom ·)))=true:=by kernel_rfl
theorem cQq:((Rows.execSmallRow.wideKeys == (Go.Proofs.Tryz.f12.params.toList++Rows.execSmallSpec.plain.varTypes Go.Proofs.Tryz.prog++Go.Proofs.Tryz.f12.resultTypes.toList).any (Go.Proofs.Tryz.prog.wideKeysFrom ·)))=true:=by kernel_rfl
theorem cQt:(Rows.execSmallSpec.vars.all (Go.Proofs.Tryz.prog.varReadable ·))=true:=by kernel_rfl
theorem cQw:(Go.Proofs.Tryz.f12.resultTypes.all (λt=>Go.Proofs.Tryz.prog.readableRec t && decide (t<Go.Proofs.Tryz.prog.types.size)))=true:=by kernel_rfl
theorem cQz:((Rows.execSmallRow.ifacesOut == Go.Proofs.Tryz.f12.resultTypes.toList.any (Go.Proofs.Tryz.prog.ifacesRec ·)))=true:=by kernel_rfl
theorem cQ2:((Rows.execSmallRow.loopsOut == Go.Proofs.Tryz.f12.resultTypes.toList.any (Go.Proofs.Tryz.prog.loopsFrom ·)))=true:=by kernel_rfl
theorem cQ5:(Rows.execSmallRow.shortTexts.isNone)=true:=by kernel_rfl
theorem cQ8:((Rows.execSmallRow.kinds == (if Rows.execSmallRow.domain.isEmpty then [] else Go.Proofs.Tryz.f12.params.toList.map λt=>match Go.Proofs.Tryz.prog.underlying t with|some (.int k)=>some k|_=>none)))=true:=by kernel_rfl
theorem cRb:((Rows.execSmallRow.pinned == Rows.execSmallRow.pinnedBy))=true:=by kernel_rfl
theorem cRe:((Rows.execSmallRow.veiled == (Go.Proofs.Tryz.f12.params.toList++Rows.execSmallSpec.plain.varTypes Go.Proofs.Tryz.prog++Go.Proofs.Tryz.f12.resultTypes.toList).any (Go.Proofs.Tryz.prog.veiledRec ·)))=true:=by kernel_rfl
theorem cRh:(Rows.execSmallRow.veiledFits Go.Proofs.Tryz.prog Go.Proofs.Tryz.f12.params.toList (Go.Proofs.Tryz.f12.params.toList++Rows.execSmallSpec.plain.varTypes Go.Proofs.Tryz.prog++Go.Proofs.Tryz.f12.resultTypes.toList))=true:=by kernel_rfl
theorem cT4:joinedFacts Go.Proofs.Tryz.prog 12 Go.Proofs.Tryz.f12 Rows.execSmallSpec Rows.execSmallRow=true:=by
 unfold joinedFacts
 exact (an (an (an (an (an (an (an (an (an (an (an (an (an (an (an (an (an (an (an (an (an (an (an (an (an (an (an (an (an (an (an cR4 cB9) cCa) cSo) cSr) cSu) cCb) cSx) cCc) cS0) cP5) cP8) cQb) cQe) cQh) cQk) cQn) cQq) cQt) cQw) cQz) cQ2) bW0) cQ5) bW1) bW2) bW3) bW4) cQ8) cRb) cRe) cRh)
theorem cTq:Rows.ExecSmallSaid:=
 OpenClaim.holds_of_wide 12 Go.Proofs.Tryz.f12 rfl rfl rfl rfl rfl rfl rfl ⟨rfl,rfl,rfl,rfl,rfl⟩ rfl rfl rfl rfl rfl (by kernel_rfl) Tryz.func12 cT4
  (of_decide_eq_true (by kernel_rfl)) (by unfold Func.isWrapper;first|(rw [if_pos (by decide +kernel)];kernel_rfl)|(rw [if_neg (by decide +kernel)];exact ⟨rfl,rfl⟩))
  (λos started H enc _=>cPw os started H enc)
end Go.Proofs.YtphnnbfgiomaoaaGreatDoor
