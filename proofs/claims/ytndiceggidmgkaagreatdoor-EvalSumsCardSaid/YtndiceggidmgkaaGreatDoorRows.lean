/-
  NARROWER THAN 'FOR EVERY INPUT', by the rows' own cells (each row's printed sentence says how): FoldMakes: laid · FoldAll: laid · FoldNames: laid · FoldOnce: laid · FoldLeaves: laid · EvalNode: laid · EvalBehind: laid · EvalScale: laid · EvalOrder: laid · EvalSums: laid · FoldKeeps: laid · EvalAll: laid.
  DERIVED. THE GIVEN ROWS OF THIS SEAT. 12 by the template 'for every input the law returns true; each argument reads behind the call as it read before'; 0 by the template 'total and deterministic' (their statements: YtndiceggidmgkaaGreatDoorTotals.lean).
  GIVEN WITH THE SEED: the statements are not yours to turn. If you find one false, say at which input.
  Laid BY PROGRAM, IN A SANDBOX (cutbox-rows.mjs): the forced cells as the released guide's own fill.sh prints them over the translation 45e493eb549768cc… (all of the seat's roots in one cut). By AI agents, Wed Nov 11 2026. No macro, syntax, notation, axiom, sorry.
-/
import Derived.Test.YtndiceggidmgkaaGreatDoorChecked
import GoSem.PinnedTables
import GoSem.Claim
import GoSem.ClaimJoined
import GoSem.ClaimMapViews
import Derived.JoinedTies
import Derived.KernelRfl
namespace Go.Proofs.YtndiceggidmgkaaGreatDoor
/- THE CELL 'sum', in the pinned program and in every row, IS THE sha256 OF THE DUMP (.gsa) THAT YtndiceggidmgkaaGreatDoorProg.lean LOADS. Nothing in Lean hashes anything: it is a label: what it is worth is what the hold of that sum in a sandbox is worth. -/
noncomputable def Tryz.pinned : Pinned := { name := "ytndiceggidmgkaagreatdoor", sum := "45e493eb549768ccefb5f81a3fc9c946f8b8d85e7d3a50ca09dde4cfc6740215", checked := Tryz.checked }
namespace Rows
def none {H : Type} : Left H := { results := [], args := [] }

/- WHAT THE LISTED PACKAGE-LEVEL VARIABLES READ AS WHEN THE CALL BEGINS. Each datum BY PROGRAM (the guide's laid-datum.mjs) off the statement by which the dump's own 'gosem.cut.vars' lays the variable. In a bare row this is a premise. The card (YtndiceggidmgkaaGreatDoorCards.lean) ties it to the program's text. -/
def laid_unicode_utf8_acceptRanges {H : Type} : DataW H := .agg [.agg [.lit (.int .u8 128), .lit (.int .u8 191)], .agg [.lit (.int .u8 160), .lit (.int .u8 191)], .agg [.lit (.int .u8 128), .lit (.int .u8 159)], .agg [.lit (.int .u8 144), .lit (.int .u8 191)], .agg [.lit (.int .u8 128), .lit (.int .u8 143)], .agg [.lit (.int .u8 0), .lit (.int .u8 0)], .agg [.lit (.int .u8 0), .lit (.int .u8 0)], .agg [.lit (.int .u8 0), .lit (.int .u8 0)], .agg [.lit (.int .u8 0), .lit (.int .u8 0)], .agg [.lit (.int .u8 0), .lit (.int .u8 0)], .agg [.lit (.int .u8 0), .lit (.int .u8 0)], .agg [.lit (.int .u8 0), .lit (.int .u8 0)], .agg [.lit (.int .u8 0), .lit (.int .u8 0)], .agg [.lit (.int .u8 0), .lit (.int .u8 0)], .agg [.lit (.int .u8 0), .lit (.int .u8 0)], .agg [.lit (.int .u8 0), .lit (.int .u8 0)]]
def laid_errors_errorType {H : Type} : DataW H := .iface "internal/reflectlite.rtype" (.agg [.ptr (.lit (.string [101, 114, 114, 111, 114]))])
def laid_tapewright_rat_errForm {H : Type} : DataW H := .iface "*errors.errorString" (.ptr (.agg [.lit (.string [110, 111, 32, 114, 97, 116, 105, 111, 110, 97, 108])]))
def laid_tapewright_rat_errZero {H : Type} : DataW H := .iface "*errors.errorString" (.ptr (.agg [.lit (.string [98, 121, 32, 110, 111, 117, 103, 104, 116])]))
/-- One of Go's own tables, pinned by name: the form's constant. -/
def laid_unicode_utf8_first : DataW Unit := Go.Pinned.utf8First

/-- 'tapewrightlaw14.FoldMakes': WHATEVER THE INPUT: true; the input reads as it did. -/
def foldMakesSpec : ChangeSpec := { name := "foldMakes", fn := fun _ => fun
  | [d] => { results := [.lit (.bool true)], args := [d] }
  | _ => none }
def foldMakesRow : OpenClaim := { program := "ytndiceggidmgkaagreatdoor", sum := "45e493eb549768ccefb5f81a3fc9c946f8b8d85e7d3a50ca09dde4cfc6740215", func := "tapewright/tapewrightlaw14.FoldMakes", spec := "foldMakes", inPlace := ["internal/bytealg.IndexByteString", "internal/bytealg.IndexString", "internal/reflectlite.TypeOf", "internal/reflectlite.ValueOf", "(internal/reflectlite.Value).Type", "(internal/reflectlite.Value).IsNil", "(internal/reflectlite.Value).Elem", "(internal/reflectlite.Value).Set"], unfollowed := true, recurses := true, named := ["unicode/utf8.first", "unicode/utf8.acceptRanges", "tapewright/rat.errForm", "internal/bytealg.MaxLen", "tapewright/rat.errZero", "errors.errorType"], apart := false, laid := [("unicode/utf8.acceptRanges", laid_unicode_utf8_acceptRanges), ("errors.errorType", laid_errors_errorType), ("tapewright/rat.errForm", laid_tapewright_rat_errForm), ("tapewright/rat.errZero", laid_tapewright_rat_errZero), ("unicode/utf8.first", laid_unicode_utf8_first)] }
def FoldMakesSaid : Prop := foldMakesRow.holds Tryz.pinned (OpenSpec.ofChange foldMakesSpec)

/-- ITS FALSE NEIGHBOUR: 'it returns false'. Refute it at one input. -/
def foldMakesWrong : ChangeSpec := { name := "foldMakes", fn := fun _ => fun
  | [d] => { results := [.lit (.bool false)], args := [d] }
  | _ => none }
def FoldMakesWrongFalsely : Prop := foldMakesRow.holds Tryz.pinned (OpenSpec.ofChange foldMakesWrong)

/-- 'tapewrightlaw14.FoldAll': WHATEVER THE INPUT: true; the input reads as it did. -/
def foldAllSpec : ChangeSpec := { name := "foldAll", fn := fun _ => fun
  | [d] => { results := [.lit (.bool true)], args := [d] }
  | _ => none }
def foldAllRow : OpenClaim := { program := "ytndiceggidmgkaagreatdoor", sum := "45e493eb549768ccefb5f81a3fc9c946f8b8d85e7d3a50ca09dde4cfc6740215", func := "tapewright/tapewrightlaw14.FoldAll", spec := "foldAll", inPlace := ["internal/bytealg.IndexByteString", "internal/bytealg.IndexString", "internal/reflectlite.TypeOf", "internal/reflectlite.ValueOf", "(internal/reflectlite.Value).Type", "(internal/reflectlite.Value).IsNil", "(internal/reflectlite.Value).Elem", "(internal/reflectlite.Value).Set"], unfollowed := true, recurses := true, named := ["unicode/utf8.first", "unicode/utf8.acceptRanges", "tapewright/rat.errForm", "internal/bytealg.MaxLen", "tapewright/rat.errZero", "errors.errorType"], apart := false, laid := [("unicode/utf8.acceptRanges", laid_unicode_utf8_acceptRanges), ("errors.errorType", laid_errors_errorType), ("tapewright/rat.errForm", laid_tapewright_rat_errForm), ("tapewright/rat.errZero", laid_tapewright_rat_errZero), ("unicode/utf8.first", laid_unicode_utf8_first)] }
def FoldAllSaid : Prop := foldAllRow.holds Tryz.pinned (OpenSpec.ofChange foldAllSpec)

/-- ITS FALSE NEIGHBOUR: 'it returns false'. Refute it at one input. -/
def foldAllWrong : ChangeSpec := { name := "foldAll", fn := fun _ => fun
  | [d] => { results := [.lit (.bool false)], args := [d] }
  | _ => none }
def FoldAllWrongFalsely : Prop := foldAllRow.holds Tryz.pinned (OpenSpec.ofChange foldAllWrong)

/-- 'tapewrightlaw14.FoldNames': WHATEVER THE INPUT: true; the input reads as it did. -/
def foldNamesSpec : ChangeSpec := { name := "foldNames", fn := fun _ => fun
  | [d] => { results := [.lit (.bool true)], args := [d] }
  | _ => none }
def foldNamesRow : OpenClaim := { program := "ytndiceggidmgkaagreatdoor", sum := "45e493eb549768ccefb5f81a3fc9c946f8b8d85e7d3a50ca09dde4cfc6740215", func := "tapewright/tapewrightlaw14.FoldNames", spec := "foldNames", inPlace := ["internal/bytealg.IndexByteString", "internal/bytealg.IndexString", "internal/reflectlite.TypeOf", "internal/reflectlite.ValueOf", "(internal/reflectlite.Value).Type", "(internal/reflectlite.Value).IsNil", "(internal/reflectlite.Value).Elem", "(internal/reflectlite.Value).Set"], unfollowed := true, recurses := true, named := ["unicode/utf8.first", "unicode/utf8.acceptRanges", "tapewright/rat.errForm", "internal/bytealg.MaxLen", "tapewright/rat.errZero", "errors.errorType"], apart := false, laid := [("unicode/utf8.acceptRanges", laid_unicode_utf8_acceptRanges), ("errors.errorType", laid_errors_errorType), ("tapewright/rat.errForm", laid_tapewright_rat_errForm), ("tapewright/rat.errZero", laid_tapewright_rat_errZero), ("unicode/utf8.first", laid_unicode_utf8_first)] }
def FoldNamesSaid : Prop := foldNamesRow.holds Tryz.pinned (OpenSpec.ofChange foldNamesSpec)

/-- ITS FALSE NEIGHBOUR: 'it returns false'. Refute it at one input. -/
def foldNamesWrong : ChangeSpec := { name := "foldNames", fn := fun _ => fun
  | [d] => { results := [.lit (.bool false)], args := [d] }
  | _ => none }
def FoldNamesWrongFalsely : Prop := foldNamesRow.holds Tryz.pinned (OpenSpec.ofChange foldNamesWrong)

/-- 'tapewrightlaw14.FoldOnce': WHATEVER THE INPUT: true; the input reads as it did. -/
def foldOnceSpec : ChangeSpec := { name := "foldOnce", fn := fun _ => fun
  | [d1, d2] => { results := [.lit (.bool true)], args := [d1, d2] }
  | _ => none }
def foldOnceRow : OpenClaim := { program := "ytndiceggidmgkaagreatdoor", sum := "45e493eb549768ccefb5f81a3fc9c946f8b8d85e7d3a50ca09dde4cfc6740215", func := "tapewright/tapewrightlaw14.FoldOnce", spec := "foldOnce", inPlace := ["internal/bytealg.IndexByteString", "internal/bytealg.IndexString", "internal/reflectlite.TypeOf", "internal/reflectlite.ValueOf", "(internal/reflectlite.Value).Type", "(internal/reflectlite.Value).IsNil", "(internal/reflectlite.Value).Elem", "(internal/reflectlite.Value).Set"], unfollowed := true, recurses := true, named := ["unicode/utf8.first", "unicode/utf8.acceptRanges", "tapewright/rat.errForm", "internal/bytealg.MaxLen", "tapewright/rat.errZero", "errors.errorType"], apart := false, laid := [("unicode/utf8.acceptRanges", laid_unicode_utf8_acceptRanges), ("errors.errorType", laid_errors_errorType), ("tapewright/rat.errForm", laid_tapewright_rat_errForm), ("tapewright/rat.errZero", laid_tapewright_rat_errZero), ("unicode/utf8.first", laid_unicode_utf8_first)] }
def FoldOnceSaid : Prop := foldOnceRow.holds Tryz.pinned (OpenSpec.ofChange foldOnceSpec)

/-- ITS FALSE NEIGHBOUR: 'it returns false'. Refute it at one input. -/
def foldOnceWrong : ChangeSpec := { name := "foldOnce", fn := fun _ => fun
  | [d1, d2] => { results := [.lit (.bool false)], args := [d1, d2] }
  | _ => none }
def FoldOnceWrongFalsely : Prop := foldOnceRow.holds Tryz.pinned (OpenSpec.ofChange foldOnceWrong)

/-- 'tapewrightlaw14.FoldLeaves': WHATEVER THE INPUT: true; the input reads as it did. -/
def foldLeavesSpec : ChangeSpec := { name := "foldLeaves", fn := fun _ => fun
  | [d] => { results := [.lit (.bool true)], args := [d] }
  | _ => none }
def foldLeavesRow : OpenClaim := { program := "ytndiceggidmgkaagreatdoor", sum := "45e493eb549768ccefb5f81a3fc9c946f8b8d85e7d3a50ca09dde4cfc6740215", func := "tapewright/tapewrightlaw14.FoldLeaves", spec := "foldLeaves", inPlace := ["internal/bytealg.IndexByteString", "internal/bytealg.IndexString", "internal/reflectlite.TypeOf", "internal/reflectlite.ValueOf", "(internal/reflectlite.Value).Type", "(internal/reflectlite.Value).IsNil", "(internal/reflectlite.Value).Elem", "(internal/reflectlite.Value).Set"], unfollowed := true, recurses := true, named := ["unicode/utf8.first", "unicode/utf8.acceptRanges", "tapewright/rat.errForm", "internal/bytealg.MaxLen", "tapewright/rat.errZero", "errors.errorType"], apart := false, laid := [("unicode/utf8.acceptRanges", laid_unicode_utf8_acceptRanges), ("errors.errorType", laid_errors_errorType), ("tapewright/rat.errForm", laid_tapewright_rat_errForm), ("tapewright/rat.errZero", laid_tapewright_rat_errZero), ("unicode/utf8.first", laid_unicode_utf8_first)] }
def FoldLeavesSaid : Prop := foldLeavesRow.holds Tryz.pinned (OpenSpec.ofChange foldLeavesSpec)

/-- ITS FALSE NEIGHBOUR: 'it returns false'. Refute it at one input. -/
def foldLeavesWrong : ChangeSpec := { name := "foldLeaves", fn := fun _ => fun
  | [d] => { results := [.lit (.bool false)], args := [d] }
  | _ => none }
def FoldLeavesWrongFalsely : Prop := foldLeavesRow.holds Tryz.pinned (OpenSpec.ofChange foldLeavesWrong)

/-- 'tapewrightlaw12.EvalNode': WHATEVER THE INPUT: true; the input reads as it did. -/
def evalNodeSpec : ChangeSpec := { name := "evalNode", fn := fun _ => fun
  | [d1, d2] => { results := [.lit (.bool true)], args := [d1, d2] }
  | _ => none }
def evalNodeRow : OpenClaim := { program := "ytndiceggidmgkaagreatdoor", sum := "45e493eb549768ccefb5f81a3fc9c946f8b8d85e7d3a50ca09dde4cfc6740215", func := "tapewright/tapewrightlaw12.EvalNode", spec := "evalNode", inPlace := ["internal/bytealg.IndexByteString", "internal/bytealg.IndexString", "internal/reflectlite.TypeOf", "internal/reflectlite.ValueOf", "(internal/reflectlite.Value).Type", "(internal/reflectlite.Value).IsNil", "(internal/reflectlite.Value).Elem", "(internal/reflectlite.Value).Set"], unfollowed := true, recurses := true, named := ["unicode/utf8.first", "unicode/utf8.acceptRanges", "tapewright/rat.errForm", "internal/bytealg.MaxLen", "tapewright/rat.errZero", "errors.errorType"], apart := false, laid := [("unicode/utf8.acceptRanges", laid_unicode_utf8_acceptRanges), ("errors.errorType", laid_errors_errorType), ("tapewright/rat.errForm", laid_tapewright_rat_errForm), ("tapewright/rat.errZero", laid_tapewright_rat_errZero), ("unicode/utf8.first", laid_unicode_utf8_first)] }
def EvalNodeSaid : Prop := evalNodeRow.holds Tryz.pinned (OpenSpec.ofChange evalNodeSpec)

/-- ITS FALSE NEIGHBOUR: 'it returns false'. Refute it at one input. -/
def evalNodeWrong : ChangeSpec := { name := "evalNode", fn := fun _ => fun
  | [d1, d2] => { results := [.lit (.bool false)], args := [d1, d2] }
  | _ => none }
def EvalNodeWrongFalsely : Prop := evalNodeRow.holds Tryz.pinned (OpenSpec.ofChange evalNodeWrong)

/-- 'tapewrightlaw12.EvalBehind': WHATEVER THE INPUT: true; the input reads as it did. -/
def evalBehindSpec : ChangeSpec := { name := "evalBehind", fn := fun _ => fun
  | [d1, d2, d3] => { results := [.lit (.bool true)], args := [d1, d2, d3] }
  | _ => none }
def evalBehindRow : OpenClaim := { program := "ytndiceggidmgkaagreatdoor", sum := "45e493eb549768ccefb5f81a3fc9c946f8b8d85e7d3a50ca09dde4cfc6740215", func := "tapewright/tapewrightlaw12.EvalBehind", spec := "evalBehind", inPlace := ["internal/bytealg.IndexByteString", "internal/bytealg.IndexString", "internal/reflectlite.TypeOf", "internal/reflectlite.ValueOf", "(internal/reflectlite.Value).Type", "(internal/reflectlite.Value).IsNil", "(internal/reflectlite.Value).Elem", "(internal/reflectlite.Value).Set"], unfollowed := true, recurses := true, named := ["unicode/utf8.first", "unicode/utf8.acceptRanges", "tapewright/rat.errForm", "internal/bytealg.MaxLen", "tapewright/rat.errZero", "errors.errorType"], apart := false, laid := [("unicode/utf8.acceptRanges", laid_unicode_utf8_acceptRanges), ("errors.errorType", laid_errors_errorType), ("tapewright/rat.errForm", laid_tapewright_rat_errForm), ("tapewright/rat.errZero", laid_tapewright_rat_errZero), ("unicode/utf8.first", laid_unicode_utf8_first)] }
def EvalBehindSaid : Prop := evalBehindRow.holds Tryz.pinned (OpenSpec.ofChange evalBehindSpec)

/-- ITS FALSE NEIGHBOUR: 'it returns false'. Refute it at one input. -/
def evalBehindWrong : ChangeSpec := { name := "evalBehind", fn := fun _ => fun
  | [d1, d2, d3] => { results := [.lit (.bool false)], args := [d1, d2, d3] }
  | _ => none }
def EvalBehindWrongFalsely : Prop := evalBehindRow.holds Tryz.pinned (OpenSpec.ofChange evalBehindWrong)

/-- 'tapewrightlaw12.EvalScale': WHATEVER THE INPUT: true; the input reads as it did. -/
def evalScaleSpec : ChangeSpec := { name := "evalScale", fn := fun _ => fun
  | [d1, d2, d3] => { results := [.lit (.bool true)], args := [d1, d2, d3] }
  | _ => none }
def evalScaleRow : OpenClaim := { program := "ytndiceggidmgkaagreatdoor", sum := "45e493eb549768ccefb5f81a3fc9c946f8b8d85e7d3a50ca09dde4cfc6740215", func := "tapewright/tapewrightlaw12.EvalScale", spec := "evalScale", inPlace := ["internal/bytealg.IndexByteString", "internal/bytealg.IndexString", "internal/reflectlite.TypeOf", "internal/reflectlite.ValueOf", "(internal/reflectlite.Value).Type", "(internal/reflectlite.Value).IsNil", "(internal/reflectlite.Value).Elem", "(internal/reflectlite.Value).Set"], unfollowed := true, recurses := true, named := ["tapewright/rat.errForm", "internal/bytealg.MaxLen", "tapewright/rat.errZero", "unicode/utf8.first", "unicode/utf8.acceptRanges", "errors.errorType"], apart := false, laid := [("unicode/utf8.acceptRanges", laid_unicode_utf8_acceptRanges), ("errors.errorType", laid_errors_errorType), ("tapewright/rat.errForm", laid_tapewright_rat_errForm), ("tapewright/rat.errZero", laid_tapewright_rat_errZero), ("unicode/utf8.first", laid_unicode_utf8_first)] }
def EvalScaleSaid : Prop := evalScaleRow.holds Tryz.pinned (OpenSpec.ofChange evalScaleSpec)

/-- ITS FALSE NEIGHBOUR: 'it returns false'. Refute it at one input. -/
def evalScaleWrong : ChangeSpec := { name := "evalScale", fn := fun _ => fun
  | [d1, d2, d3] => { results := [.lit (.bool false)], args := [d1, d2, d3] }
  | _ => none }
def EvalScaleWrongFalsely : Prop := evalScaleRow.holds Tryz.pinned (OpenSpec.ofChange evalScaleWrong)

/-- 'tapewrightlaw12.EvalOrder': WHATEVER THE INPUT: true; the input reads as it did. -/
def evalOrderSpec : ChangeSpec := { name := "evalOrder", fn := fun _ => fun
  | [d1, d2, d3] => { results := [.lit (.bool true)], args := [d1, d2, d3] }
  | _ => none }
def evalOrderRow : OpenClaim := { program := "ytndiceggidmgkaagreatdoor", sum := "45e493eb549768ccefb5f81a3fc9c946f8b8d85e7d3a50ca09dde4cfc6740215", func := "tapewright/tapewrightlaw12.EvalOrder", spec := "evalOrder", inPlace := ["internal/bytealg.IndexByteString", "internal/bytealg.IndexString", "internal/reflectlite.TypeOf", "internal/reflectlite.ValueOf", "(internal/reflectlite.Value).Type", "(internal/reflectlite.Value).IsNil", "(internal/reflectlite.Value).Elem", "(internal/reflectlite.Value).Set"], unfollowed := true, recurses := true, named := ["unicode/utf8.first", "unicode/utf8.acceptRanges", "tapewright/rat.errForm", "internal/bytealg.MaxLen", "tapewright/rat.errZero", "errors.errorType"], apart := false, laid := [("unicode/utf8.acceptRanges", laid_unicode_utf8_acceptRanges), ("errors.errorType", laid_errors_errorType), ("tapewright/rat.errForm", laid_tapewright_rat_errForm), ("tapewright/rat.errZero", laid_tapewright_rat_errZero), ("unicode/utf8.first", laid_unicode_utf8_first)] }
def EvalOrderSaid : Prop := evalOrderRow.holds Tryz.pinned (OpenSpec.ofChange evalOrderSpec)

/-- ITS FALSE NEIGHBOUR: 'it returns false'. Refute it at one input. -/
def evalOrderWrong : ChangeSpec := { name := "evalOrder", fn := fun _ => fun
  | [d1, d2, d3] => { results := [.lit (.bool false)], args := [d1, d2, d3] }
  | _ => none }
def EvalOrderWrongFalsely : Prop := evalOrderRow.holds Tryz.pinned (OpenSpec.ofChange evalOrderWrong)

/-- 'tapewrightlaw12.EvalSums': WHATEVER THE INPUT: true; the input reads as it did. -/
def evalSumsSpec : ChangeSpec := { name := "evalSums", fn := fun _ => fun
  | [d1, d2] => { results := [.lit (.bool true)], args := [d1, d2] }
  | _ => none }
def evalSumsRow : OpenClaim := { program := "ytndiceggidmgkaagreatdoor", sum := "45e493eb549768ccefb5f81a3fc9c946f8b8d85e7d3a50ca09dde4cfc6740215", func := "tapewright/tapewrightlaw12.EvalSums", spec := "evalSums", inPlace := ["internal/bytealg.IndexByteString", "internal/bytealg.IndexString", "internal/reflectlite.TypeOf", "internal/reflectlite.ValueOf", "(internal/reflectlite.Value).Type", "(internal/reflectlite.Value).IsNil", "(internal/reflectlite.Value).Elem", "(internal/reflectlite.Value).Set"], unfollowed := true, recurses := true, named := ["unicode/utf8.first", "unicode/utf8.acceptRanges", "tapewright/rat.errForm", "internal/bytealg.MaxLen", "tapewright/rat.errZero", "errors.errorType"], apart := false, laid := [("unicode/utf8.acceptRanges", laid_unicode_utf8_acceptRanges), ("errors.errorType", laid_errors_errorType), ("tapewright/rat.errForm", laid_tapewright_rat_errForm), ("tapewright/rat.errZero", laid_tapewright_rat_errZero), ("unicode/utf8.first", laid_unicode_utf8_first)] }
def EvalSumsSaid : Prop := evalSumsRow.holds Tryz.pinned (OpenSpec.ofChange evalSumsSpec)

/-- ITS FALSE NEIGHBOUR: 'it returns false'. Refute it at one input. -/
def evalSumsWrong : ChangeSpec := { name := "evalSums", fn := fun _ => fun
  | [d1, d2] => { results := [.lit (.bool false)], args := [d1, d2] }
  | _ => none }
def EvalSumsWrongFalsely : Prop := evalSumsRow.holds Tryz.pinned (OpenSpec.ofChange evalSumsWrong)

/-- 'tapewrightlaw14.FoldKeeps': WHATEVER THE INPUT: true; the input reads as it did. -/
def foldKeepsSpec : ChangeSpec := { name := "foldKeeps", fn := fun _ => fun
  | [d1, d2] => { results := [.lit (.bool true)], args := [d1, d2] }
  | _ => none }
def foldKeepsRow : OpenClaim := { program := "ytndiceggidmgkaagreatdoor", sum := "45e493eb549768ccefb5f81a3fc9c946f8b8d85e7d3a50ca09dde4cfc6740215", func := "tapewright/tapewrightlaw14.FoldKeeps", spec := "foldKeeps", inPlace := ["internal/bytealg.IndexByteString", "internal/bytealg.IndexString", "internal/reflectlite.TypeOf", "internal/reflectlite.ValueOf", "(internal/reflectlite.Value).Type", "(internal/reflectlite.Value).IsNil", "(internal/reflectlite.Value).Elem", "(internal/reflectlite.Value).Set"], unfollowed := true, recurses := true, named := ["unicode/utf8.first", "unicode/utf8.acceptRanges", "tapewright/rat.errForm", "internal/bytealg.MaxLen", "tapewright/rat.errZero", "errors.errorType"], apart := false, laid := [("unicode/utf8.acceptRanges", laid_unicode_utf8_acceptRanges), ("errors.errorType", laid_errors_errorType), ("tapewright/rat.errForm", laid_tapewright_rat_errForm), ("tapewright/rat.errZero", laid_tapewright_rat_errZero), ("unicode/utf8.first", laid_unicode_utf8_first)] }
def FoldKeepsSaid : Prop := foldKeepsRow.holds Tryz.pinned (OpenSpec.ofChange foldKeepsSpec)

/-- ITS FALSE NEIGHBOUR: 'it returns false'. Refute it at one input. -/
def foldKeepsWrong : ChangeSpec := { name := "foldKeeps", fn := fun _ => fun
  | [d1, d2] => { results := [.lit (.bool false)], args := [d1, d2] }
  | _ => none }
def FoldKeepsWrongFalsely : Prop := foldKeepsRow.holds Tryz.pinned (OpenSpec.ofChange foldKeepsWrong)

/-- 'tapewrightlaw12.EvalAll': WHATEVER THE INPUT: true; the input reads as it did. -/
def evalAllSpec : ChangeSpec := { name := "evalAll", fn := fun _ => fun
  | [d1, d2] => { results := [.lit (.bool true)], args := [d1, d2] }
  | _ => none }
def evalAllRow : OpenClaim := { program := "ytndiceggidmgkaagreatdoor", sum := "45e493eb549768ccefb5f81a3fc9c946f8b8d85e7d3a50ca09dde4cfc6740215", func := "tapewright/tapewrightlaw12.EvalAll", spec := "evalAll", inPlace := ["internal/bytealg.IndexByteString", "internal/bytealg.IndexString", "internal/reflectlite.TypeOf", "internal/reflectlite.ValueOf", "(internal/reflectlite.Value).Type", "(internal/reflectlite.Value).IsNil", "(internal/reflectlite.Value).Elem", "(internal/reflectlite.Value).Set"], unfollowed := true, recurses := true, named := ["unicode/utf8.first", "unicode/utf8.acceptRanges", "tapewright/rat.errForm", "internal/bytealg.MaxLen", "tapewright/rat.errZero", "errors.errorType"], apart := false, laid := [("unicode/utf8.acceptRanges", laid_unicode_utf8_acceptRanges), ("errors.errorType", laid_errors_errorType), ("tapewright/rat.errForm", laid_tapewright_rat_errForm), ("tapewright/rat.errZero", laid_tapewright_rat_errZero), ("unicode/utf8.first", laid_unicode_utf8_first)] }
def EvalAllSaid : Prop := evalAllRow.holds Tryz.pinned (OpenSpec.ofChange evalAllSpec)

/-- ITS FALSE NEIGHBOUR: 'it returns false'. Refute it at one input. -/
def evalAllWrong : ChangeSpec := { name := "evalAll", fn := fun _ => fun
  | [d1, d2] => { results := [.lit (.bool false)], args := [d1, d2] }
  | _ => none }
def EvalAllWrongFalsely : Prop := evalAllRow.holds Tryz.pinned (OpenSpec.ofChange evalAllWrong)

/- THE SECOND FORM. 'bulk': how many values and letters a reading holds, each counted each time it is reached (what is shared counts as often as it is met; a slice's spare places count too). A statement '..UptoSaid' is the law's where the arguments, and the package variables that the reading takes, are together of bulk at most 1048576: NARROWER than '..Said'. Prove '..Said' where nothing that the law and all that it calls make is longer than what came in: it says more and counts as full. Else prove '..UptoSaid'. A law counts once. -/
mutual
def uptoBulk {H : Type} : DataW H → Nat
  | .lit (.string bytes) => bytes.length + 1
  | .lit _ => 1
  | .nil => 1
  | .ptr d => uptoBulk d + 1
  | .slice elems spare => uptoBulkAll elems + uptoBulkAll spare + 1
  | .agg parts => uptoBulkAll parts + 1
  | .iface _ d => uptoBulk d + 1
  | .map entries => uptoBulkEntries entries + 1
  | .held _ => 1
def uptoBulkAll {H : Type} : List (DataW H) → Nat
  | [] => 0
  | d :: r => uptoBulk d + uptoBulkAll r
def uptoBulkEntries {H : Type} : List (Lit × DataW H) → Nat
  | [] => 0
  | x :: r => uptoBulkEntry x + uptoBulkEntries r
def uptoBulkEntry {H : Type} : Lit × DataW H → Nat
  | (.string bytes, d) => bytes.length + uptoBulk d + 1
  | (_, d) => uptoBulk d + 1
 end
def uptoSmall : (H : Type) → List (DataW H) → Bool := fun _ ds => decide (uptoBulkAll ds ≤ 1048576)
def OpenSpec.upto (s : _root_.Go.ChangeSpec) : _root_.Go.OpenSpec := { _root_.Go.OpenSpec.ofChange s with cond := some uptoSmall }

/-- 'tapewrightlaw14.FoldMakes', WHERE WHAT IT READS IS OF BULK AT MOST 1048576: true; the input reads as it did. -/
def foldMakesUptoRow : OpenClaim := { program := "ytndiceggidmgkaagreatdoor", sum := "45e493eb549768ccefb5f81a3fc9c946f8b8d85e7d3a50ca09dde4cfc6740215", func := "tapewright/tapewrightlaw14.FoldMakes", spec := "foldMakes", inPlace := ["internal/bytealg.IndexByteString", "internal/bytealg.IndexString", "internal/reflectlite.TypeOf", "internal/reflectlite.ValueOf", "(internal/reflectlite.Value).Type", "(internal/reflectlite.Value).IsNil", "(internal/reflectlite.Value).Elem", "(internal/reflectlite.Value).Set"], unfollowed := true, recurses := true, named := ["unicode/utf8.first", "unicode/utf8.acceptRanges", "tapewright/rat.errForm", "internal/bytealg.MaxLen", "tapewright/rat.errZero", "errors.errorType"], apart := false, laid := [("unicode/utf8.acceptRanges", laid_unicode_utf8_acceptRanges), ("errors.errorType", laid_errors_errorType), ("tapewright/rat.errForm", laid_tapewright_rat_errForm), ("tapewright/rat.errZero", laid_tapewright_rat_errZero), ("unicode/utf8.first", laid_unicode_utf8_first)], narrowed := true }
def FoldMakesUptoSaid : Prop := foldMakesUptoRow.holds Tryz.pinned (OpenSpec.upto foldMakesSpec)

/-- 'tapewrightlaw14.FoldAll', WHERE WHAT IT READS IS OF BULK AT MOST 1048576: true; the input reads as it did. -/
def foldAllUptoRow : OpenClaim := { program := "ytndiceggidmgkaagreatdoor", sum := "45e493eb549768ccefb5f81a3fc9c946f8b8d85e7d3a50ca09dde4cfc6740215", func := "tapewright/tapewrightlaw14.FoldAll", spec := "foldAll", inPlace := ["internal/bytealg.IndexByteString", "internal/bytealg.IndexString", "internal/reflectlite.TypeOf", "internal/reflectlite.ValueOf", "(internal/reflectlite.Value).Type", "(internal/reflectlite.Value).IsNil", "(internal/reflectlite.Value).Elem", "(internal/reflectlite.Value).Set"], unfollowed := true, recurses := true, named := ["unicode/utf8.first", "unicode/utf8.acceptRanges", "tapewright/rat.errForm", "internal/bytealg.MaxLen", "tapewright/rat.errZero", "errors.errorType"], apart := false, laid := [("unicode/utf8.acceptRanges", laid_unicode_utf8_acceptRanges), ("errors.errorType", laid_errors_errorType), ("tapewright/rat.errForm", laid_tapewright_rat_errForm), ("tapewright/rat.errZero", laid_tapewright_rat_errZero), ("unicode/utf8.first", laid_unicode_utf8_first)], narrowed := true }
def FoldAllUptoSaid : Prop := foldAllUptoRow.holds Tryz.pinned (OpenSpec.upto foldAllSpec)

/-- 'tapewrightlaw14.FoldNames', WHERE WHAT IT READS IS OF BULK AT MOST 1048576: true; the input reads as it did. -/
def foldNamesUptoRow : OpenClaim := { program := "ytndiceggidmgkaagreatdoor", sum := "45e493eb549768ccefb5f81a3fc9c946f8b8d85e7d3a50ca09dde4cfc6740215", func := "tapewright/tapewrightlaw14.FoldNames", spec := "foldNames", inPlace := ["internal/bytealg.IndexByteString", "internal/bytealg.IndexString", "internal/reflectlite.TypeOf", "internal/reflectlite.ValueOf", "(internal/reflectlite.Value).Type", "(internal/reflectlite.Value).IsNil", "(internal/reflectlite.Value).Elem", "(internal/reflectlite.Value).Set"], unfollowed := true, recurses := true, named := ["unicode/utf8.first", "unicode/utf8.acceptRanges", "tapewright/rat.errForm", "internal/bytealg.MaxLen", "tapewright/rat.errZero", "errors.errorType"], apart := false, laid := [("unicode/utf8.acceptRanges", laid_unicode_utf8_acceptRanges), ("errors.errorType", laid_errors_errorType), ("tapewright/rat.errForm", laid_tapewright_rat_errForm), ("tapewright/rat.errZero", laid_tapewright_rat_errZero), ("unicode/utf8.first", laid_unicode_utf8_first)], narrowed := true }
def FoldNamesUptoSaid : Prop := foldNamesUptoRow.holds Tryz.pinned (OpenSpec.upto foldNamesSpec)

/-- 'tapewrightlaw14.FoldOnce', WHERE WHAT IT READS IS OF BULK AT MOST 1048576: true; the input reads as it did. -/
def foldOnceUptoRow : OpenClaim := { program := "ytndiceggidmgkaagreatdoor", sum := "45e493eb549768ccefb5f81a3fc9c946f8b8d85e7d3a50ca09dde4cfc6740215", func := "tapewright/tapewrightlaw14.FoldOnce", spec := "foldOnce", inPlace := ["internal/bytealg.IndexByteString", "internal/bytealg.IndexString", "internal/reflectlite.TypeOf", "internal/reflectlite.ValueOf", "(internal/reflectlite.Value).Type", "(internal/reflectlite.Value).IsNil", "(internal/reflectlite.Value).Elem", "(internal/reflectlite.Value).Set"], unfollowed := true, recurses := true, named := ["unicode/utf8.first", "unicode/utf8.acceptRanges", "tapewright/rat.errForm", "internal/bytealg.MaxLen", "tapewright/rat.errZero", "errors.errorType"], apart := false, laid := [("unicode/utf8.acceptRanges", laid_unicode_utf8_acceptRanges), ("errors.errorType", laid_errors_errorType), ("tapewright/rat.errForm", laid_tapewright_rat_errForm), ("tapewright/rat.errZero", laid_tapewright_rat_errZero), ("unicode/utf8.first", laid_unicode_utf8_first)], narrowed := true }
def FoldOnceUptoSaid : Prop := foldOnceUptoRow.holds Tryz.pinned (OpenSpec.upto foldOnceSpec)

/-- 'tapewrightlaw14.FoldLeaves', WHERE WHAT IT READS IS OF BULK AT MOST 1048576: true; the input reads as it did. -/
def foldLeavesUptoRow : OpenClaim := { program := "ytndiceggidmgkaagreatdoor", sum := "45e493eb549768ccefb5f81a3fc9c946f8b8d85e7d3a50ca09dde4cfc6740215", func := "tapewright/tapewrightlaw14.FoldLeaves", spec := "foldLeaves", inPlace := ["internal/bytealg.IndexByteString", "internal/bytealg.IndexString", "internal/reflectlite.TypeOf", "internal/reflectlite.ValueOf", "(internal/reflectlite.Value).Type", "(internal/reflectlite.Value).IsNil", "(internal/reflectlite.Value).Elem", "(internal/reflectlite.Value).Set"], unfollowed := true, recurses := true, named := ["unicode/utf8.first", "unicode/utf8.acceptRanges", "tapewright/rat.errForm", "internal/bytealg.MaxLen", "tapewright/rat.errZero", "errors.errorType"], apart := false, laid := [("unicode/utf8.acceptRanges", laid_unicode_utf8_acceptRanges), ("errors.errorType", laid_errors_errorType), ("tapewright/rat.errForm", laid_tapewright_rat_errForm), ("tapewright/rat.errZero", laid_tapewright_rat_errZero), ("unicode/utf8.first", laid_unicode_utf8_first)], narrowed := true }
def FoldLeavesUptoSaid : Prop := foldLeavesUptoRow.holds Tryz.pinned (OpenSpec.upto foldLeavesSpec)

/-- 'tapewrightlaw12.EvalNode', WHERE WHAT IT READS IS OF BULK AT MOST 1048576: true; the input reads as it did. -/
def evalNodeUptoRow : OpenClaim := { program := "ytndiceggidmgkaagreatdoor", sum := "45e493eb549768ccefb5f81a3fc9c946f8b8d85e7d3a50ca09dde4cfc6740215", func := "tapewright/tapewrightlaw12.EvalNode", spec := "evalNode", inPlace := ["internal/bytealg.IndexByteString", "internal/bytealg.IndexString", "internal/reflectlite.TypeOf", "internal/reflectlite.ValueOf", "(internal/reflectlite.Value).Type", "(internal/reflectlite.Value).IsNil", "(internal/reflectlite.Value).Elem", "(internal/reflectlite.Value).Set"], unfollowed := true, recurses := true, named := ["unicode/utf8.first", "unicode/utf8.acceptRanges", "tapewright/rat.errForm", "internal/bytealg.MaxLen", "tapewright/rat.errZero", "errors.errorType"], apart := false, laid := [("unicode/utf8.acceptRanges", laid_unicode_utf8_acceptRanges), ("errors.errorType", laid_errors_errorType), ("tapewright/rat.errForm", laid_tapewright_rat_errForm), ("tapewright/rat.errZero", laid_tapewright_rat_errZero), ("unicode/utf8.first", laid_unicode_utf8_first)], narrowed := true }
def EvalNodeUptoSaid : Prop := evalNodeUptoRow.holds Tryz.pinned (OpenSpec.upto evalNodeSpec)

/-- 'tapewrightlaw12.EvalBehind', WHERE WHAT IT READS IS OF BULK AT MOST 1048576: true; the input reads as it did. -/
def evalBehindUptoRow : OpenClaim := { program := "ytndiceggidmgkaagreatdoor", sum := "45e493eb549768ccefb5f81a3fc9c946f8b8d85e7d3a50ca09dde4cfc6740215", func := "tapewright/tapewrightlaw12.EvalBehind", spec := "evalBehind", inPlace := ["internal/bytealg.IndexByteString", "internal/bytealg.IndexString", "internal/reflectlite.TypeOf", "internal/reflectlite.ValueOf", "(internal/reflectlite.Value).Type", "(internal/reflectlite.Value).IsNil", "(internal/reflectlite.Value).Elem", "(internal/reflectlite.Value).Set"], unfollowed := true, recurses := true, named := ["unicode/utf8.first", "unicode/utf8.acceptRanges", "tapewright/rat.errForm", "internal/bytealg.MaxLen", "tapewright/rat.errZero", "errors.errorType"], apart := false, laid := [("unicode/utf8.acceptRanges", laid_unicode_utf8_acceptRanges), ("errors.errorType", laid_errors_errorType), ("tapewright/rat.errForm", laid_tapewright_rat_errForm), ("tapewright/rat.errZero", laid_tapewright_rat_errZero), ("unicode/utf8.first", laid_unicode_utf8_first)], narrowed := true }
def EvalBehindUptoSaid : Prop := evalBehindUptoRow.holds Tryz.pinned (OpenSpec.upto evalBehindSpec)

/-- 'tapewrightlaw12.EvalScale', WHERE WHAT IT READS IS OF BULK AT MOST 1048576: true; the input reads as it did. -/
def evalScaleUptoRow : OpenClaim := { program := "ytndiceggidmgkaagreatdoor", sum := "45e493eb549768ccefb5f81a3fc9c946f8b8d85e7d3a50ca09dde4cfc6740215", func := "tapewright/tapewrightlaw12.EvalScale", spec := "evalScale", inPlace := ["internal/bytealg.IndexByteString", "internal/bytealg.IndexString", "internal/reflectlite.TypeOf", "internal/reflectlite.ValueOf", "(internal/reflectlite.Value).Type", "(internal/reflectlite.Value).IsNil", "(internal/reflectlite.Value).Elem", "(internal/reflectlite.Value).Set"], unfollowed := true, recurses := true, named := ["tapewright/rat.errForm", "internal/bytealg.MaxLen", "tapewright/rat.errZero", "unicode/utf8.first", "unicode/utf8.acceptRanges", "errors.errorType"], apart := false, laid := [("unicode/utf8.acceptRanges", laid_unicode_utf8_acceptRanges), ("errors.errorType", laid_errors_errorType), ("tapewright/rat.errForm", laid_tapewright_rat_errForm), ("tapewright/rat.errZero", laid_tapewright_rat_errZero), ("unicode/utf8.first", laid_unicode_utf8_first)], narrowed := true }
def EvalScaleUptoSaid : Prop := evalScaleUptoRow.holds Tryz.pinned (OpenSpec.upto evalScaleSpec)

/-- 'tapewrightlaw12.EvalOrder', WHERE WHAT IT READS IS OF BULK AT MOST 1048576: true; the input reads as it did. -/
def evalOrderUptoRow : OpenClaim := { program := "ytndiceggidmgkaagreatdoor", sum := "45e493eb549768ccefb5f81a3fc9c946f8b8d85e7d3a50ca09dde4cfc6740215", func := "tapewright/tapewrightlaw12.EvalOrder", spec := "evalOrder", inPlace := ["internal/bytealg.IndexByteString", "internal/bytealg.IndexString", "internal/reflectlite.TypeOf", "internal/reflectlite.ValueOf", "(internal/reflectlite.Value).Type", "(internal/reflectlite.Value).IsNil", "(internal/reflectlite.Value).Elem", "(internal/reflectlite.Value).Set"], unfollowed := true, recurses := true, named := ["unicode/utf8.first", "unicode/utf8.acceptRanges", "tapewright/rat.errForm", "internal/bytealg.MaxLen", "tapewright/rat.errZero", "errors.errorType"], apart := false, laid := [("unicode/utf8.acceptRanges", laid_unicode_utf8_acceptRanges), ("errors.errorType", laid_errors_errorType), ("tapewright/rat.errForm", laid_tapewright_rat_errForm), ("tapewright/rat.errZero", laid_tapewright_rat_errZero), ("unicode/utf8.first", laid_unicode_utf8_first)], narrowed := true }
def EvalOrderUptoSaid : Prop := evalOrderUptoRow.holds Tryz.pinned (OpenSpec.upto evalOrderSpec)

/-- 'tapewrightlaw12.EvalSums', WHERE WHAT IT READS IS OF BULK AT MOST 1048576: true; the input reads as it did. -/
def evalSumsUptoRow : OpenClaim := { program := "ytndiceggidmgkaagreatdoor", sum := "45e493eb549768ccefb5f81a3fc9c946f8b8d85e7d3a50ca09dde4cfc6740215", func := "tapewright/tapewrightlaw12.EvalSums", spec := "evalSums", inPlace := ["internal/bytealg.IndexByteString", "internal/bytealg.IndexString", "internal/reflectlite.TypeOf", "internal/reflectlite.ValueOf", "(internal/reflectlite.Value).Type", "(internal/reflectlite.Value).IsNil", "(internal/reflectlite.Value).Elem", "(internal/reflectlite.Value).Set"], unfollowed := true, recurses := true, named := ["unicode/utf8.first", "unicode/utf8.acceptRanges", "tapewright/rat.errForm", "internal/bytealg.MaxLen", "tapewright/rat.errZero", "errors.errorType"], apart := false, laid := [("unicode/utf8.acceptRanges", laid_unicode_utf8_acceptRanges), ("errors.errorType", laid_errors_errorType), ("tapewright/rat.errForm", laid_tapewright_rat_errForm), ("tapewright/rat.errZero", laid_tapewright_rat_errZero), ("unicode/utf8.first", laid_unicode_utf8_first)], narrowed := true }
def EvalSumsUptoSaid : Prop := evalSumsUptoRow.holds Tryz.pinned (OpenSpec.upto evalSumsSpec)

/-- 'tapewrightlaw14.FoldKeeps', WHERE WHAT IT READS IS OF BULK AT MOST 1048576: true; the input reads as it did. -/
def foldKeepsUptoRow : OpenClaim := { program := "ytndiceggidmgkaagreatdoor", sum := "45e493eb549768ccefb5f81a3fc9c946f8b8d85e7d3a50ca09dde4cfc6740215", func := "tapewright/tapewrightlaw14.FoldKeeps", spec := "foldKeeps", inPlace := ["internal/bytealg.IndexByteString", "internal/bytealg.IndexString", "internal/reflectlite.TypeOf", "internal/reflectlite.ValueOf", "(internal/reflectlite.Value).Type", "(internal/reflectlite.Value).IsNil", "(internal/reflectlite.Value).Elem", "(internal/reflectlite.Value).Set"], unfollowed := true, recurses := true, named := ["unicode/utf8.first", "unicode/utf8.acceptRanges", "tapewright/rat.errForm", "internal/bytealg.MaxLen", "tapewright/rat.errZero", "errors.errorType"], apart := false, laid := [("unicode/utf8.acceptRanges", laid_unicode_utf8_acceptRanges), ("errors.errorType", laid_errors_errorType), ("tapewright/rat.errForm", laid_tapewright_rat_errForm), ("tapewright/rat.errZero", laid_tapewright_rat_errZero), ("unicode/utf8.first", laid_unicode_utf8_first)], narrowed := true }
def FoldKeepsUptoSaid : Prop := foldKeepsUptoRow.holds Tryz.pinned (OpenSpec.upto foldKeepsSpec)

/-- 'tapewrightlaw12.EvalAll', WHERE WHAT IT READS IS OF BULK AT MOST 1048576: true; the input reads as it did. -/
def evalAllUptoRow : OpenClaim := { program := "ytndiceggidmgkaagreatdoor", sum := "45e493eb549768ccefb5f81a3fc9c946f8b8d85e7d3a50ca09dde4cfc6740215", func := "tapewright/tapewrightlaw12.EvalAll", spec := "evalAll", inPlace := ["internal/bytealg.IndexByteString", "internal/bytealg.IndexString", "internal/reflectlite.TypeOf", "internal/reflectlite.ValueOf", "(internal/reflectlite.Value).Type", "(internal/reflectlite.Value).IsNil", "(internal/reflectlite.Value).Elem", "(internal/reflectlite.Value).Set"], unfollowed := true, recurses := true, named := ["unicode/utf8.first", "unicode/utf8.acceptRanges", "tapewright/rat.errForm", "internal/bytealg.MaxLen", "tapewright/rat.errZero", "errors.errorType"], apart := false, laid := [("unicode/utf8.acceptRanges", laid_unicode_utf8_acceptRanges), ("errors.errorType", laid_errors_errorType), ("tapewright/rat.errForm", laid_tapewright_rat_errForm), ("tapewright/rat.errZero", laid_tapewright_rat_errZero), ("unicode/utf8.first", laid_unicode_utf8_first)], narrowed := true }
def EvalAllUptoSaid : Prop := evalAllUptoRow.holds Tryz.pinned (OpenSpec.upto evalAllSpec)

end Rows
end Go.Proofs.YtndiceggidmgkaaGreatDoor
