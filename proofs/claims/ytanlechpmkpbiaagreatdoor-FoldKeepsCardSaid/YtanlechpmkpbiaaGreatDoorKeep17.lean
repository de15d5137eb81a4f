/-
  Lemmas (part 17) for: Fold and Eval: FoldKeeps, EvalAll, EvalScale hold for all arguments; no condition.
-/
import Derived.Test.YtanlechpmkpbiaaGreatDoorKeep7
import Derived.Test.YtanlechpmkpbiaaGreatDoorKeep16
set_option linter.all false
namespace Go.Proofs.YtanlechpmkpbiaaGreatDoor
open Go Go.ChangeShapes Go.WideShapes Go.ChangeAt Go.RowKit Go.V
set_option maxRecDepth 100000
theorem aS1:(Rows.foldKeepsRow.wf (OpenSpec.ofChange Rows.foldKeepsSpec))=true:=by kernel_rfl
theorem aS3:(Go.Proofs.Tryz.f5.params.all (Go.Proofs.Tryz.prog.readableRec ·))=true:=by kernel_rfl
theorem aS5:(namedTie Go.Proofs.Tryz.prog Rows.foldKeepsRow.named Rows.foldKeepsSpec.vars)=true:=by kernel_rfl
theorem aS7:((Rows.foldKeepsRow.stops == []))=true:=by kernel_rfl
theorem aS9:((Rows.foldKeepsRow.knobs == []))=true:=by kernel_rfl
theorem aTb:((Rows.foldKeepsRow.inPlace == Go.Proofs.Tryz.prog.inPlace 5))=true:=by kernel_rfl
theorem aQn:((Rows.foldKeepsRow.unfollowed == Go.Proofs.Tryz.prog.unfollowed 5))=true:=by kernel_rfl
theorem aQp:((Rows.foldKeepsRow.recurses == Go.Proofs.Tryz.prog.recurses 5))=true:=by kernel_rfl
theorem aQr:((Rows.foldKeepsRow.named == Go.Proofs.Tryz.prog.varsNamed 5))=true:=by kernel_rfl
theorem aQt:((Rows.foldKeepsRow.maps == (Go.Proofs.Tryz.f5.params.toList++Rows.foldKeepsSpec.plain.varTypes Go.Proofs.Tryz.prog).any (Go.Proofs.Tryz.prog.mapsRec ·)))=true:=by kernel_rfl
theorem aQv:((Rows.foldKeepsRow.ifaces == (Go.Proofs.Tryz.f5.params.toList++Rows.foldKeepsSpec.plain.varTypes Go.Proofs.Tryz.prog).any (Go.Proofs.Tryz.prog.ifacesRec ·)))=true:=by kernel_rfl
theorem aQx:((Rows.foldKeepsRow.mapsOut == Go.Proofs.Tryz.prog.mapsAmong Go.Proofs.Tryz.f5.resultTypes.toList))=true:=by kernel_rfl
theorem aQz:((Rows.foldKeepsRow.loops == (Go.Proofs.Tryz.f5.params.toList++Rows.foldKeepsSpec.plain.varTypes Go.Proofs.Tryz.prog).any (Go.Proofs.Tryz.prog.loopsFrom ·)))=true:=by kernel_rfl
theorem aQ1:((Rows.foldKeepsRow.wideKeys == (Go.Proofs.Tryz.f5.params.toList++Rows.foldKeepsSpec.plain.varTypes Go.Proofs.Tryz.prog++Go.Proofs.Tryz.f5.resultTypes.toList).any (Go.Proofs.Tryz.prog.wideKeysFrom ·)))=true:=by kernel_rfl
theorem aQ3:(Rows.foldKeepsSpec.vars.all (Go.Proofs.Tryz.prog.varReadable ·))=true:=by kernel_rfl
theorem aQ5:(Go.Proofs.Tryz.f5.resultTypes.all (λt=>Go.Proofs.Tryz.prog.readableRec t && decide (t<Go.Proofs.Tryz.prog.types.size)))=true:=by kernel_rfl
theorem aQ7:((Rows.foldKeepsRow.ifacesOut == Go.Proofs.Tryz.f5.resultTypes.toList.any (Go.Proofs.Tryz.prog.ifacesRec ·)))=true:=by kernel_rfl
theorem aQ9:((Rows.foldKeepsRow.loopsOut == Go.Proofs.Tryz.f5.resultTypes.toList.any (Go.Proofs.Tryz.prog.loopsFrom ·)))=true:=by kernel_rfl
theorem aRb:(Rows.foldKeepsRow.shortTexts.isNone)=true:=by kernel_rfl
theorem aRd:((Rows.foldKeepsRow.kinds == (if Rows.foldKeepsRow.domain.isEmpty then [] else Go.Proofs.Tryz.f5.params.toList.map λt=>match Go.Proofs.Tryz.prog.underlying t with|some (.int k)=>some k|_=>none)))=true:=by kernel_rfl
theorem aRf:((Rows.foldKeepsRow.pinned == Rows.foldKeepsRow.pinnedBy))=true:=by kernel_rfl
theorem aRh:((Rows.foldKeepsRow.veiled == (Go.Proofs.Tryz.f5.params.toList++Rows.foldKeepsSpec.plain.varTypes Go.Proofs.Tryz.prog++Go.Proofs.Tryz.f5.resultTypes.toList).any (Go.Proofs.Tryz.prog.veiledRec ·)))=true:=by kernel_rfl
theorem aRj:(Rows.foldKeepsRow.veiledFits Go.Proofs.Tryz.prog Go.Proofs.Tryz.f5.params.toList (Go.Proofs.Tryz.f5.params.toList++Rows.foldKeepsSpec.plain.varTypes Go.Proofs.Tryz.prog++Go.Proofs.Tryz.f5.resultTypes.toList))=true:=by kernel_rfl
theorem aZ8:joinedFacts Go.Proofs.Tryz.prog 5 Go.Proofs.Tryz.f5 Rows.foldKeepsSpec Rows.foldKeepsRow=true:=by
 unfold joinedFacts
 exact (an (an (an (an (an (an (an (an (an (an (an (an (an (an (an (an (an (an (an (an (an (an (an (an (an (an (an (an (an (an (an aS1 cB9) cCa) aS3) aS5) aS7) cCb) aS9) cCc) aTb) aQn) aQp) aQr) aQt) aQv) aQx) aQz) aQ1) aQ3) aQ5) aQ7) aQ9) bW0) aRb) bW1) bW2) bW3) bW4) aRd) aRf) aRh) aRj)
theorem aXh:Rows.FoldKeepsSaid:=
 OpenClaim.holds_of_wide 5 Go.Proofs.Tryz.f5 rfl rfl rfl rfl rfl rfl rfl ⟨rfl,rfl,rfl,rfl,rfl⟩ rfl rfl rfl rfl rfl (by kernel_rfl) Tryz.func5 aZ8
  (of_decide_eq_true (by kernel_rfl)) (by unfold Func.isWrapper;first|(rw [if_pos (by decide +kernel)];kernel_rfl)|(rw [if_neg (by decide +kernel)];exact ⟨rfl,rfl⟩))
  (λos started H enc _=>aOc os started H enc)
end Go.Proofs.YtanlechpmkpbiaaGreatDoor
