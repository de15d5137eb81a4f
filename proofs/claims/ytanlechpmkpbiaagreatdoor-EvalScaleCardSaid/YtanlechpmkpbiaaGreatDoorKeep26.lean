/-
  Lemmas (part 26) for: Fold and Eval: FoldKeeps, EvalAll, EvalScale hold for all arguments; no condition.
-/
import Derived.Test.YtanlechpmkpbiaaGreatDoorKeep7
import Derived.Test.YtanlechpmkpbiaaGreatDoorKeep25
set_option linter.all false
namespace Go.Proofs.YtanlechpmkpbiaaGreatDoor
open Go Go.ChangeShapes Go.WideShapes Go.ChangeAt Go.RowKit Go.V
set_option maxRecDepth 100000
theorem aS0:(Rows.evalScaleRow.wf (OpenSpec.ofChange Rows.evalScaleSpec))=true:=by kernel_rfl
theorem aS2:(Go.Proofs.Tryz.f4.params.all (Go.Proofs.Tryz.prog.readableRec ·))=true:=by kernel_rfl
theorem aS4:(namedTie Go.Proofs.Tryz.prog Rows.evalScaleRow.named Rows.evalScaleSpec.vars)=true:=by kernel_rfl
theorem aS6:((Rows.evalScaleRow.stops == []))=true:=by kernel_rfl
theorem aS8:((Rows.evalScaleRow.knobs == []))=true:=by kernel_rfl
theorem aTa:((Rows.evalScaleRow.inPlace == Go.Proofs.Tryz.prog.inPlace 4))=true:=by kernel_rfl
theorem aQm:((Rows.evalScaleRow.unfollowed == Go.Proofs.Tryz.prog.unfollowed 4))=true:=by kernel_rfl
theorem aQo:((Rows.evalScaleRow.recurses == Go.Proofs.Tryz.prog.recurses 4))=true:=by kernel_rfl
theorem aQq:((Rows.evalScaleRow.named == Go.Proofs.Tryz.prog.varsNamed 4))=true:=by kernel_rfl
theorem aQs:((Rows.evalScaleRow.maps == (Go.Proofs.Tryz.f4.params.toList++Rows.evalScaleSpec.plain.varTypes Go.Proofs.Tryz.prog).any (Go.Proofs.Tryz.prog.mapsRec ·)))=true:=by kernel_rfl
theorem aQu:((Rows.evalScaleRow.ifaces == (Go.Proofs.Tryz.f4.params.toList++Rows.evalScaleSpec.plain.varTypes Go.Proofs.Tryz.prog).any (Go.Proofs.Tryz.prog.ifacesRec ·)))=true:=by kernel_rfl
theorem aQw:((Rows.evalScaleRow.mapsOut == Go.Proofs.Tryz.prog.mapsAmong Go.Proofs.Tryz.f4.resultTypes.toList))=true:=by kernel_rfl
theorem aQy:((Rows.evalScaleRow.loops == (Go.Proofs.Tryz.f4.params.toList++Rows.evalScaleSpec.plain.varTypes Go.Proofs.Tryz.prog).any (Go.Proofs.Tryz.prog.loopsFrom ·)))=true:=by kernel_rfl
theorem aQ0:((Rows.evalScaleRow.wideKeys == (Go.Proofs.Tryz.f4.params.toList++Rows.evalScaleSpec.plain.varTypes Go.Proofs.Tryz.prog++Go.Proofs.Tryz.f4.resultTypes.toList).any (Go.Proofs.Tryz.prog.wideKeysFrom ·)))=true:=by kernel_rfl
theorem aQ2:(Rows.evalScaleSpec.vars.all (Go.Proofs.Tryz.prog.varReadable ·))=true:=by kernel_rfl
theorem aQ4:(Go.Proofs.Tryz.f4.resultTypes.all (λt=>Go.Proofs.Tryz.prog.readableRec t && decide (t<Go.Proofs.Tryz.prog.types.size)))=true:=by kernel_rfl
theorem aQ6:((Rows.evalScaleRow.ifacesOut == Go.Proofs.Tryz.f4.resultTypes.toList.any (Go.Proofs.Tryz.prog.ifacesRec ·)))=true:=by kernel_rfl
theorem aQ8:((Rows.evalScaleRow.loopsOut == Go.Proofs.Tryz.f4.resultTypes.toList.any (Go.Proofs.Tryz.prog.loopsFrom ·)))=true:=by kernel_rfl
theorem aRa:(Rows.evalScaleRow.shortTexts.isNone)=true:=by kernel_rfl
theorem aRc:((Rows.evalScaleRow.kinds == (if Rows.evalScaleRow.domain.isEmpty then [] else Go.Proofs.Tryz.f4.params.toList.map λt=>match Go.Proofs.Tryz.prog.underlying t with|some (.int k)=>some k|_=>none)))=true:=by kernel_rfl
theorem aRe:((Rows.evalScaleRow.pinned == Rows.evalScaleRow.pinnedBy))=true:=by kernel_rfl
theorem aRg:((Rows.evalScaleRow.veiled == (Go.Proofs.Tryz.f4.params.toList++Rows.evalScaleSpec.plain.varTypes Go.Proofs.Tryz.prog++Go.Proofs.Tryz.f4.resultTypes.toList).any (Go.Proofs.Tryz.prog.veiledRec ·)))=true:=by kernel_rfl
theorem aRi:(Rows.evalScaleRow.veiledFits Go.Proofs.Tryz.prog Go.Proofs.Tryz.f4.params.toList (Go.Proofs.Tryz.f4.params.toList++Rows.evalScaleSpec.plain.varTypes Go.Proofs.Tryz.prog++Go.Proofs.Tryz.f4.resultTypes.toList))=true:=by kernel_rfl
theorem aZ7:joinedFacts Go.Proofs.Tryz.prog 4 Go.Proofs.Tryz.f4 Rows.evalScaleSpec Rows.evalScaleRow=true:=by
 unfold joinedFacts
 exact (an (an (an (an (an (an (an (an (an (an (an (an (an (an (an (an (an (an (an (an (an (an (an (an (an (an (an (an (an (an (an aS0 cB9) cCa) aS2) aS4) aS6) cCb) aS8) cCc) aTa) aQm) aQo) aQq) aQs) aQu) aQw) aQy) aQ0) aQ2) aQ4) aQ6) aQ8) bW0) aRa) bW1) bW2) bW3) bW4) aRc) aRe) aRg) aRi)
theorem aXg:Rows.EvalScaleSaid:=
 OpenClaim.holds_of_wide 4 Go.Proofs.Tryz.f4 rfl rfl rfl rfl rfl rfl rfl ⟨rfl,rfl,rfl,rfl,rfl⟩ rfl rfl rfl rfl rfl (by kernel_rfl) Tryz.func4 aZ7
  (of_decide_eq_true (by kernel_rfl)) (by unfold Func.isWrapper;first|(rw [if_pos (by decide +kernel)];kernel_rfl)|(rw [if_neg (by decide +kernel)];exact ⟨rfl,rfl⟩))
  (λos started H enc _=>aOb os started H enc)
end Go.Proofs.YtanlechpmkpbiaaGreatDoor
