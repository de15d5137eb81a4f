/-
  Lemmas (part 21) for: Fold and Eval: FoldKeeps, EvalAll, EvalScale hold for all arguments; no condition.
-/
import Derived.Test.YtanlechpmkpbiaaGreatDoorKeep7
import Derived.Test.YtanlechpmkpbiaaGreatDoorKeep20
set_option linter.all false
namespace Go.Proofs.YtanlechpmkpbiaaGreatDoor
open Go Go.ChangeShapes Go.WideShapes Go.ChangeAt Go.RowKit Go.V
set_option maxRecDepth 100000
theorem aZ1:(Rows.evalAllRow.wf (OpenSpec.ofChange Rows.evalAllSpec))=true:=by kernel_rfl
theorem aZ2:(Go.Proofs.Tryz.f6.params.all (Go.Proofs.Tryz.prog.readableRec ·))=true:=by kernel_rfl
theorem aZ3:(namedTie Go.Proofs.Tryz.prog Rows.evalAllRow.named Rows.evalAllSpec.vars)=true:=by kernel_rfl
theorem aZ4:((Rows.evalAllRow.stops == []))=true:=by kernel_rfl
theorem aZ5:((Rows.evalAllRow.knobs == []))=true:=by kernel_rfl
theorem aZ6:((Rows.evalAllRow.inPlace == Go.Proofs.Tryz.prog.inPlace 6))=true:=by kernel_rfl
theorem aWd:((Rows.evalAllRow.unfollowed == Go.Proofs.Tryz.prog.unfollowed 6))=true:=by kernel_rfl
theorem aWe:((Rows.evalAllRow.recurses == Go.Proofs.Tryz.prog.recurses 6))=true:=by kernel_rfl
theorem aWf:((Rows.evalAllRow.named == Go.Proofs.Tryz.prog.varsNamed 6))=true:=by kernel_rfl
theorem aWg:((Rows.evalAllRow.maps == (Go.Proofs.Tryz.f6.params.toList++Rows.evalAllSpec.plain.varTypes Go.Proofs.Tryz.prog).any (Go.Proofs.Tryz.prog.mapsRec ·)))=true:=by kernel_rfl
theorem aWh:((Rows.evalAllRow.ifaces == (Go.Proofs.Tryz.f6.params.toList++Rows.evalAllSpec.plain.varTypes Go.Proofs.Tryz.prog).any (Go.Proofs.Tryz.prog.ifacesRec ·)))=true:=by kernel_rfl
theorem aWi:((Rows.evalAllRow.mapsOut == Go.Proofs.Tryz.prog.mapsAmong Go.Proofs.Tryz.f6.resultTypes.toList))=true:=by kernel_rfl
theorem aWj:((Rows.evalAllRow.loops == (Go.Proofs.Tryz.f6.params.toList++Rows.evalAllSpec.plain.varTypes Go.Proofs.Tryz.prog).any (Go.Proofs.Tryz.prog.loopsFrom ·)))=true:=by kernel_rfl
theorem aWk:((Rows.evalAllRow.wideKeys == (Go.Proofs.Tryz.f6.params.toList++Rows.evalAllSpec.plain.varTypes Go.Proofs.Tryz.prog++Go.Proofs.Tryz.f6.resultTypes.toList).any (Go.Proofs.Tryz.prog.wideKeysFrom ·)))=true:=by kernel_rfl
theorem aWl:(Rows.evalAllSpec.vars.all (Go.Proofs.Tryz.prog.varReadable ·))=true:=by kernel_rfl
theorem aWm:(Go.Proofs.Tryz.f6.resultTypes.all (λt=>Go.Proofs.Tryz.prog.readableRec t && decide (t<Go.Proofs.Tryz.prog.types.size)))=true:=by kernel_rfl
theorem aWn:((Rows.evalAllRow.ifacesOut == Go.Proofs.Tryz.f6.resultTypes.toList.any (Go.Proofs.Tryz.prog.ifacesRec ·)))=true:=by kernel_rfl
theorem aWo:((Rows.evalAllRow.loopsOut == Go.Proofs.Tryz.f6.resultTypes.toList.any (Go.Proofs.Tryz.prog.loopsFrom ·)))=true:=by kernel_rfl
theorem aWp:(Rows.evalAllRow.shortTexts.isNone)=true:=by kernel_rfl
theorem aWq:((Rows.evalAllRow.kinds == (if Rows.evalAllRow.domain.isEmpty then [] else Go.Proofs.Tryz.f6.params.toList.map λt=>match Go.Proofs.Tryz.prog.underlying t with|some (.int k)=>some k|_=>none)))=true:=by kernel_rfl
theorem aWr:((Rows.evalAllRow.pinned == Rows.evalAllRow.pinnedBy))=true:=by kernel_rfl
theorem aWs:((Rows.evalAllRow.veiled == (Go.Proofs.Tryz.f6.params.toList++Rows.evalAllSpec.plain.varTypes Go.Proofs.Tryz.prog++Go.Proofs.Tryz.f6.resultTypes.toList).any (Go.Proofs.Tryz.prog.veiledRec ·)))=true:=by kernel_rfl
theorem aWt:(Rows.evalAllRow.veiledFits Go.Proofs.Tryz.prog Go.Proofs.Tryz.f6.params.toList (Go.Proofs.Tryz.f6.params.toList++Rows.evalAllSpec.plain.varTypes Go.Proofs.Tryz.prog++Go.Proofs.Tryz.f6.resultTypes.toList))=true:=by kernel_rfl
theorem bIn:joinedFacts Go.Proofs.Tryz.prog 6 Go.Proofs.Tryz.f6 Rows.evalAllSpec Rows.evalAllRow=true:=by
 unfold joinedFacts
 exact (an (an (an (an (an (an (an (an (an (an (an (an (an (an (an (an (an (an (an (an (an (an (an (an (an (an (an (an (an (an (an aZ1 cB9) cCa) aZ2) aZ3) aZ4) cCb) aZ5) cCc) aZ6) aWd) aWe) aWf) aWg) aWh) aWi) aWj) aWk) aWl) aWm) aWn) aWo) bW0) aWp) bW1) bW2) bW3) bW4) aWq) aWr) aWs) aWt)
theorem bEb:Rows.EvalAllSaid:=
 OpenClaim.holds_of_wide 6 Go.Proofs.Tryz.f6 rfl rfl rfl rfl rfl rfl rfl ⟨rfl,rfl,rfl,rfl,rfl⟩ rfl rfl rfl rfl rfl (by kernel_rfl) Tryz.func6 bIn
  (of_decide_eq_true (by kernel_rfl)) (by unfold Func.isWrapper;first|(rw [if_pos (by decide +kernel)];kernel_rfl)|(rw [if_neg (by decide +kernel)];exact ⟨rfl,rfl⟩))
  (λos started H enc _=>aTd os started H enc)
end Go.Proofs.YtanlechpmkpbiaaGreatDoor
