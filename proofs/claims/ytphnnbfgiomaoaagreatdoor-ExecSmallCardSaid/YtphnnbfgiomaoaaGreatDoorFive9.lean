/-
  Lemmas (part 9) for: the statement.
-/
import Derived.Test.YtphnnbfgiomaoaaGreatDoorFive8
set_option linter.all false
namespace Go.Proofs.YtphnnbfgiomaoaaGreatDoor
open Go Go.ChangeShapes Go.WideShapes Go.ChangeAt Go.RowKit Go.V
set_option maxRecDepth 100000
theorem an {a b:Bool}(h:a=true) (k:b=true):(a && b)=true:=by rw [h,k];rfl
theorem cB9:(laidOutB Go.Proofs.Tryz.prog)=true:=by kernel_rfl
theorem cCa:(mapsRowed Go.Proofs.Tryz.prog)=true:=by kernel_rfl
theorem cCb:((Go.Proofs.Tryz.prog.stops == []))=true:=by kernel_rfl
theorem cCc:((Go.Proofs.Tryz.prog.stopKnobs == []))=true:=by kernel_rfl
theorem bW0:((Rows.cseKeepsRow.plainKeys == Go.Proofs.Tryz.prog.plainKeys))=true:=by kernel_rfl
theorem bW1:(Go.Proofs.Tryz.prog.stopsHeard)=true:=by kernel_rfl
theorem bW2:(Go.Proofs.Tryz.prog.mayEnter)=true:=by kernel_rfl
theorem bW3:((Rows.cseKeepsRow.lifted == Go.Proofs.Tryz.prog.liftsFinal))=true:=by kernel_rfl
theorem bW4:((Go.Proofs.Tryz.prog.make == some Rows.cseKeepsRow.make))=true:=by kernel_rfl
theorem aVz:true=Go.Proofs.Tryz.prog.looks []:=by kernel_rfl
end Go.Proofs.YtphnnbfgiomaoaaGreatDoor
