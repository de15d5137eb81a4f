/-
  Lemmas (part 7) for: Fold and Eval: FoldKeeps, EvalAll, EvalScale hold for all arguments; no condition.
-/
import Derived.Test.YtanlechpmkpbiaaGreatDoorKeep6
set_option linter.all false
namespace Go.Proofs.YtanlechpmkpbiaaGreatDoor
open Go Go.ChangeShapes Go.WideShapes Go.ChangeAt Go.RowKit Go.V
set_option maxRecDepth 100000
theorem an {a b:Bool}(h:a=true) (k:b=true):(a && b)=true:=by rw [h,k];rfl
theorem cB9:(laidOutB Go.Proofs.Tryz.prog)=true:=by kernel_rfl
theorem cCa:(mapsRowed Go.Proofs.Tryz.prog)=true:=by kernel_rfl
theorem cCb:((Go.Proofs.Tryz.prog.stops == []))=true:=by kernel_rfl
theorem cCc:((Go.Proofs.Tryz.prog.stopKnobs == []))=true:=by kernel_rfl
theorem bW0:((Rows.foldKeepsRow.plainKeys == Go.Proofs.Tryz.prog.plainKeys))=true:=by kernel_rfl
theorem bW1:(Go.Proofs.Tryz.prog.stopsHeard)=true:=by kernel_rfl
theorem bW2:(Go.Proofs.Tryz.prog.mayEnter)=true:=by kernel_rfl
theorem bW3:((Rows.foldKeepsRow.lifted == Go.Proofs.Tryz.prog.liftsFinal))=true:=by kernel_rfl
theorem bW4:((Go.Proofs.Tryz.prog.make == some Rows.foldKeepsRow.make))=true:=by kernel_rfl
theorem aVz:true=Go.Proofs.Tryz.prog.looks []:=by kernel_rfl
end Go.Proofs.YtanlechpmkpbiaaGreatDoor
