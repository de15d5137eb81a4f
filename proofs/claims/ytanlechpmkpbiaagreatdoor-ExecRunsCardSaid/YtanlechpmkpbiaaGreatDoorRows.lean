/-
  NARROWER THAN 'FOR EVERY INPUT', by the rows' own cells (each row's printed sentence says how): FoldOnce: laid · EvalScale: laid · FoldKeeps: laid · EvalAll: laid · DeadKeeps: laid · ExecRuns: laid · ExecSteps: laid · ExecLoss: laid.
  DERIVED. THE GIVEN ROWS OF THIS SEAT. 8 by the template 'for every input the law returns true; each argument reads behind the call as it read before'; 0 by the template 'total and deterministic' (their statements: YtanlechpmkpbiaaGreatDoorTotals.lean).
  GIVEN WITH THE SEED: the statements are not yours to turn. If you find one false, say at which input.
  Laid BY PROGRAM, IN A SANDBOX (cutbox-rows.mjs): the forced cells as the released guide's own fill.sh prints them over the translation 84cea12304842cb3… (all of the seat's roots in one cut). By AI agents, Wed Nov 11 2026. No macro, syntax, notation, axiom, sorry.
-/
import Derived.Test.YtanlechpmkpbiaaGreatDoorChecked
import GoSem.PinnedTables
import GoSem.Claim
import GoSem.ClaimJoined
import GoSem.ClaimMapViews
import Derived.JoinedTies
import Derived.KernelRfl
namespace Go.Proofs.YtanlechpmkpbiaaGreatDoor
/- THE CELL 'sum', in the pinned program and in every row, IS THE sha256 OF THE DUMP (.gsa) THAT YtanlechpmkpbiaaGreatDoorProg.lean LOADS. Nothing in Lean hashes anything: it is a label: what it is worth is what the hold of that sum in a sandbox is worth. -/
noncomputable def Tryz.pinned : Pinned := { name := "ytanlechpmkpbiaagreatdoor", sum := "84cea12304842cb396cc814e90e8fb6a801eb3a949cfa6958b993a1fe1b5ea5c", checked := Tryz.checked }
namespace Rows
def none {H : Type} : Left H := { results := [], args := [] }

/- WHAT THE LISTED PACKAGE-LEVEL VARIABLES READ AS WHEN THE CALL BEGINS. Each datum BY PROGRAM (the guide's laid-datum.mjs) off the statement by which the dump's own 'gosem.cut.vars' lays the variable. In a bare row this is a premise. The card (YtanlechpmkpbiaaGreatDoorCards.lean) ties it to the program's text. -/
def laid_unicode_utf8_acceptRanges {H : Type} : DataW H := .agg [.agg [.lit (.int .u8 128), .lit (.int .u8 191)], .agg [.lit (.int .u8 160), .lit (.int .u8 191)], .agg [.lit (.int .u8 128), .lit (.int .u8 159)], .agg [.lit (.int .u8 144), .lit (.int .u8 191)], .agg [.lit (.int .u8 128), .lit (.int .u8 143)], .agg [.lit (.int .u8 0), .lit (.int .u8 0)], .agg [.lit (.int .u8 0), .lit (.int .u8 0)], .agg [.lit (.int .u8 0), .lit (.int .u8 0)], .agg [.lit (.int .u8 0), .lit (.int .u8 0)], .agg [.lit (.int .u8 0), .lit (.int .u8 0)], .agg [.lit (.int .u8 0), .lit (.int .u8 0)], .agg [.lit (.int .u8 0), .lit (.int .u8 0)], .agg [.lit (.int .u8 0), .lit (.int .u8 0)], .agg [.lit (.int .u8 0), .lit (.int .u8 0)], .agg [.lit (.int .u8 0), .lit (.int .u8 0)], .agg [.lit (.int .u8 0), .lit (.int .u8 0)]]
def laid_errors_errorType {H : Type} : DataW H := .iface "internal/reflectlite.rtype" (.agg [.ptr (.lit (.string [101, 114, 114, 111, 114]))])
def laid_tapewright_rat_errForm {H : Type} : DataW H := .iface "*errors.errorString" (.ptr (.agg [.lit (.string [110, 111, 32, 114, 97, 116, 105, 111, 110, 97, 108])]))
def laid_tapewright_rat_errZero {H : Type} : DataW H := .iface "*errors.errorString" (.ptr (.agg [.lit (.string [98, 121, 32, 110, 111, 117, 103, 104, 116])]))
/-- One of Go's own tables, pinned by name: the form's constant. -/
def laid_unicode_utf8_first : DataW Unit := Go.Pinned.utf8First

/-- 'tapewrightlaw14.FoldOnce': WHATEVER THE INPUT: true; the input reads as it did. -/
def foldOnceSpec : ChangeSpec := { name := "foldOnce", fn := fun _ => fun
  | [d1, d2] => { results := [.lit (.bool true)], args := [d1, d2] }
  | _ => none }
def foldOnceRow : OpenClaim := { program := "ytanlechpmkpbiaagreatdoor", sum := "84cea12304842cb396cc814e90e8fb6a801eb3a949cfa6958b993a1fe1b5ea5c", func := "tapewright/tapewrightlaw14.FoldOnce", spec := "foldOnce", inPlace := ["internal/bytealg.IndexByteString", "internal/bytealg.IndexString", "internal/reflectlite.TypeOf", "internal/reflectlite.ValueOf", "(internal/reflectlite.Value).Type", "(internal/reflectlite.Value).IsNil", "(internal/reflectlite.Value).Elem", "(internal/reflectlite.Value).Set"], unfollowed := true, recurses := true, named := ["unicode/utf8.first", "unicode/utf8.acceptRanges", "tapewright/rat.errForm", "internal/bytealg.MaxLen", "tapewright/rat.errZero", "errors.errorType"], apart := false, laid := [("unicode/utf8.acceptRanges", laid_unicode_utf8_acceptRanges), ("errors.errorType", laid_errors_errorType), ("tapewright/rat.errForm", laid_tapewright_rat_errForm), ("tapewright/rat.errZero", laid_tapewright_rat_errZero), ("unicode/utf8.first", laid_unicode_utf8_first)] }
def FoldOnceSaid : Prop := foldOnceRow.holds Tryz.pinned (OpenSpec.ofChange foldOnceSpec)

/-- ITS FALSE NEIGHBOUR: 'it returns false'. Refute it at one input. -/
def foldOnceWrong : ChangeSpec := { name := "foldOnce", fn := fun _ => fun
  | [d1, d2] => { results := [.lit (.bool false)], args := [d1, d2] }
  | _ => none }
def FoldOnceWrongFalsely : Prop := foldOnceRow.holds Tryz.pinned (OpenSpec.ofChange foldOnceWrong)

/-- 'tapewrightlaw12.EvalScale': WHATEVER THE INPUT: true; the input reads as it did. -/
def evalScaleSpec : ChangeSpec := { name := "evalScale", fn := fun _ => fun
  | [d1, d2, d3] => { results := [.lit (.bool true)], args := [d1, d2, d3] }
  | _ => none }
def evalScaleRow : OpenClaim := { program := "ytanlechpmkpbiaagreatdoor", sum := "84cea12304842cb396cc814e90e8fb6a801eb3a949cfa6958b993a1fe1b5ea5c", func := "tapewright/tapewrightlaw12.EvalScale", spec := "evalScale", inPlace := ["internal/bytealg.IndexByteString", "internal/bytealg.IndexString", "internal/reflectlite.TypeOf", "internal/reflectlite.ValueOf", "(internal/reflectlite.Value).Type", "(internal/reflectlite.Value).IsNil", "(internal/reflectlite.Value).Elem", "(internal/reflectlite.Value).Set"], unfollowed := true, recurses := true, named := ["tapewright/rat.errForm", "internal/bytealg.MaxLen", "tapewright/rat.errZero", "unicode/utf8.first", "unicode/utf8.acceptRanges", "errors.errorType"], apart := false, laid := [("unicode/utf8.acceptRanges", laid_unicode_utf8_acceptRanges), ("errors.errorType", laid_errors_errorType), ("tapewright/rat.errForm", laid_tapewright_rat_errForm), ("tapewright/rat.errZero", laid_tapewright_rat_errZero), ("unicode/utf8.first", laid_unicode_utf8_first)] }
def EvalScaleSaid : Prop := evalScaleRow.holds Tryz.pinned (OpenSpec.ofChange evalScaleSpec)

/-- ITS FALSE NEIGHBOUR: 'it returns false'. Refute it at one input. -/
def evalScaleWrong : ChangeSpec := { name := "evalScale", fn := fun _ => fun
  | [d1, d2, d3] => { results := [.lit (.bool false)], args := [d1, d2, d3] }
  | _ => none }
def EvalScaleWrongFalsely : Prop := evalScaleRow.holds Tryz.pinned (OpenSpec.ofChange evalScaleWrong)

/-- 'tapewrightlaw14.FoldKeeps': WHATEVER THE INPUT: true; the input reads as it did. -/
def foldKeepsSpec : ChangeSpec := { name := "foldKeeps", fn := fun _ => fun
  | [d1, d2] => { results := [.lit (.bool true)], args := [d1, d2] }
  | _ => none }
def foldKeepsRow : OpenClaim := { program := "ytanlechpmkpbiaagreatdoor", sum := "84cea12304842cb396cc814e90e8fb6a801eb3a949cfa6958b993a1fe1b5ea5c", func := "tapewright/tapewrightlaw14.FoldKeeps", spec := "foldKeeps", inPlace := ["internal/bytealg.IndexByteString", "internal/bytealg.IndexString", "internal/reflectlite.TypeOf", "internal/reflectlite.ValueOf", "(internal/reflectlite.Value).Type", "(internal/reflectlite.Value).IsNil", "(internal/reflectlite.Value).Elem", "(internal/reflectlite.Value).Set"], unfollowed := true, recurses := true, named := ["unicode/utf8.first", "unicode/utf8.acceptRanges", "tapewright/rat.errForm", "internal/bytealg.MaxLen", "tapewright/rat.errZero", "errors.errorType"], apart := false, laid := [("unicode/utf8.acceptRanges", laid_unicode_utf8_acceptRanges), ("errors.errorType", laid_errors_errorType), ("tapewright/rat.errForm", laid_tapewright_rat_errForm), ("tapewright/rat.errZero", laid_tapewright_rat_errZero), ("unicode/utf8.first", laid_unicode_utf8_first)] }
def FoldKeepsSaid : Prop := foldKeepsRow.holds Tryz.pinned (OpenSpec.ofChange foldKeepsSpec)

/-- ITS FALSE NEIGHBOUR: 'it returns false'. Refute it at one input. -/
def foldKeepsWrong : ChangeSpec := { name := "foldKeeps", fn := fun _ => fun
  | [d1, d2] => { results := [.lit (.bool false)], args := [d1, d2] }
  | _ => none }
def FoldKeepsWrongFalsely : Prop := foldKeepsRow.holds Tryz.pinned (OpenSpec.ofChange foldKeepsWrong)

/-- 'tapewrightlaw12.EvalAll': WHATEVER THE INPUT: true; the input reads as it did. -/
def evalAllSpec : ChangeSpec := { name := "evalAll", fn := fun _ => fun
  | [d1, d2] => { results := [.lit (.bool true)], args := [d1, d2] }
  | _ => none }
def evalAllRow : OpenClaim := { program := "ytanlechpmkpbiaagreatdoor", sum := "84cea12304842cb396cc814e90e8fb6a801eb3a949cfa6958b993a1fe1b5ea5c", func := "tapewright/tapewrightlaw12.EvalAll", spec := "evalAll", inPlace := ["internal/bytealg.IndexByteString", "internal/bytealg.IndexString", "internal/reflectlite.TypeOf", "internal/reflectlite.ValueOf", "(internal/reflectlite.Value).Type", "(internal/reflectlite.Value).IsNil", "(internal/reflectlite.Value).Elem", "(internal/reflectlite.Value).Set"], unfollowed := true, recurses := true, named := ["unicode/utf8.first", "unicode/utf8.acceptRanges", "tapewright/rat.errForm", "internal/bytealg.MaxLen", "tapewright/rat.errZero", "errors.errorType"], apart := false, laid := [("unicode/utf8.acceptRanges", laid_unicode_utf8_acceptRanges), ("errors.errorType", laid_errors_errorType), ("tapewright/rat.errForm", laid_tapewright_rat_errForm), ("tapewright/rat.errZero", laid_tapewright_rat_errZero), ("unicode/utf8.first", laid_unicode_utf8_first)] }
def EvalAllSaid : Prop := evalAllRow.holds Tryz.pinned (OpenSpec.ofChange evalAllSpec)

/-- ITS FALSE NEIGHBOUR: 'it returns false'. Refute it at one input. -/
def evalAllWrong : ChangeSpec := { name := "evalAll", fn := fun _ => fun
  | [d1, d2] => { results := [.lit (.bool false)], args := [d1, d2] }
  | _ => none }
def EvalAllWrongFalsely : Prop := evalAllRow.holds Tryz.pinned (OpenSpec.ofChange evalAllWrong)

/-- 'tapewrightlaw16.DeadKeeps': WHATEVER THE INPUT: true; the input reads as it did. -/
def deadKeepsSpec : ChangeSpec := { name := "deadKeeps", fn := fun _ => fun
  | [d1, d2, d3] => { results := [.lit (.bool true)], args := [d1, d2, d3] }
  | _ => none }
def deadKeepsRow : OpenClaim := { program := "ytanlechpmkpbiaagreatdoor", sum := "84cea12304842cb396cc814e90e8fb6a801eb3a949cfa6958b993a1fe1b5ea5c", func := "tapewright/tapewrightlaw16.DeadKeeps", spec := "deadKeeps", inPlace := ["internal/bytealg.IndexByteString", "internal/bytealg.IndexString", "internal/reflectlite.TypeOf", "internal/reflectlite.ValueOf", "(internal/reflectlite.Value).Type", "(internal/reflectlite.Value).IsNil", "(internal/reflectlite.Value).Elem", "(internal/reflectlite.Value).Set"], unfollowed := true, recurses := true, named := ["unicode/utf8.first", "unicode/utf8.acceptRanges", "tapewright/rat.errForm", "internal/bytealg.MaxLen", "tapewright/rat.errZero", "errors.errorType"], apart := false, laid := [("unicode/utf8.acceptRanges", laid_unicode_utf8_acceptRanges), ("errors.errorType", laid_errors_errorType), ("tapewright/rat.errForm", laid_tapewright_rat_errForm), ("tapewright/rat.errZero", laid_tapewright_rat_errZero), ("unicode/utf8.first", laid_unicode_utf8_first)] }
def DeadKeepsSaid : Prop := deadKeepsRow.holds Tryz.pinned (OpenSpec.ofChange deadKeepsSpec)

/-- ITS FALSE NEIGHBOUR: 'it returns false'. Refute it at one input. -/
def deadKeepsWrong : ChangeSpec := { name := "deadKeeps", fn := fun _ => fun
  | [d1, d2, d3] => { results := [.lit (.bool false)], args := [d1, d2, d3] }
  | _ => none }
def DeadKeepsWrongFalsely : Prop := deadKeepsRow.holds Tryz.pinned (OpenSpec.ofChange deadKeepsWrong)

/-- 'tapewrightlaw18.ExecRuns': WHATEVER THE INPUT: true; the input reads as it did. -/
def execRunsSpec : ChangeSpec := { name := "execRuns", fn := fun _ => fun
  | [d1, d2, d3, d4] => { results := [.lit (.bool true)], args := [d1, d2, d3, d4] }
  | _ => none }
def execRunsRow : OpenClaim := { program := "ytanlechpmkpbiaagreatdoor", sum := "84cea12304842cb396cc814e90e8fb6a801eb3a949cfa6958b993a1fe1b5ea5c", func := "tapewright/tapewrightlaw18.ExecRuns", spec := "execRuns", inPlace := ["internal/bytealg.IndexByteString", "internal/bytealg.IndexString", "internal/reflectlite.TypeOf", "internal/reflectlite.ValueOf", "(internal/reflectlite.Value).Type", "(internal/reflectlite.Value).IsNil", "(internal/reflectlite.Value).Elem", "(internal/reflectlite.Value).Set"], unfollowed := true, recurses := true, named := ["unicode/utf8.first", "unicode/utf8.acceptRanges", "tapewright/rat.errForm", "internal/bytealg.MaxLen", "tapewright/rat.errZero", "errors.errorType"], apart := false, laid := [("unicode/utf8.acceptRanges", laid_unicode_utf8_acceptRanges), ("errors.errorType", laid_errors_errorType), ("tapewright/rat.errForm", laid_tapewright_rat_errForm), ("tapewright/rat.errZero", laid_tapewright_rat_errZero), ("unicode/utf8.first", laid_unicode_utf8_first)] }
def ExecRunsSaid : Prop := execRunsRow.holds Tryz.pinned (OpenSpec.ofChange execRunsSpec)

/-- ITS FALSE NEIGHBOUR: 'it returns false'. Refute it at one input. -/
def execRunsWrong : ChangeSpec := { name := "execRuns", fn := fun _ => fun
  | [d1, d2, d3, d4] => { results := [.lit (.bool false)], args := [d1, d2, d3, d4] }
  | _ => none }
def ExecRunsWrongFalsely : Prop := execRunsRow.holds Tryz.pinned (OpenSpec.ofChange execRunsWrong)

/-- 'tapewrightlaw18.ExecSteps': WHATEVER THE INPUT: true; the input reads as it did. -/
def execStepsSpec : ChangeSpec := { name := "execSteps", fn := fun _ => fun
  | [d1, d2, d3, d4] => { results := [.lit (.bool true)], args := [d1, d2, d3, d4] }
  | _ => none }
def execStepsRow : OpenClaim := { program := "ytanlechpmkpbiaagreatdoor", sum := "84cea12304842cb396cc814e90e8fb6a801eb3a949cfa6958b993a1fe1b5ea5c", func := "tapewright/tapewrightlaw18.ExecSteps", spec := "execSteps", inPlace := ["internal/bytealg.IndexByteString", "internal/bytealg.IndexString", "internal/reflectlite.TypeOf", "internal/reflectlite.ValueOf", "(internal/reflectlite.Value).Type", "(internal/reflectlite.Value).IsNil", "(internal/reflectlite.Value).Elem", "(internal/reflectlite.Value).Set"], unfollowed := true, recurses := true, named := ["unicode/utf8.first", "unicode/utf8.acceptRanges", "tapewright/rat.errForm", "internal/bytealg.MaxLen", "tapewright/rat.errZero", "errors.errorType"], apart := false, laid := [("unicode/utf8.acceptRanges", laid_unicode_utf8_acceptRanges), ("errors.errorType", laid_errors_errorType), ("tapewright/rat.errForm", laid_tapewright_rat_errForm), ("tapewright/rat.errZero", laid_tapewright_rat_errZero), ("unicode/utf8.first", laid_unicode_utf8_first)] }
def ExecStepsSaid : Prop := execStepsRow.holds Tryz.pinned (OpenSpec.ofChange execStepsSpec)

/-- ITS FALSE NEIGHBOUR: 'it returns false'. Refute it at one input. -/
def execStepsWrong : ChangeSpec := { name := "execSteps", fn := fun _ => fun
  | [d1, d2, d3, d4] => { results := [.lit (.bool false)], args := [d1, d2, d3, d4] }
  | _ => none }
def ExecStepsWrongFalsely : Prop := execStepsRow.holds Tryz.pinned (OpenSpec.ofChange execStepsWrong)

/-- 'tapewrightlaw18.ExecLoss': WHATEVER THE INPUT: true; the input reads as it did. -/
def execLossSpec : ChangeSpec := { name := "execLoss", fn := fun _ => fun
  | [d1, d2, d3] => { results := [.lit (.bool true)], args := [d1, d2, d3] }
  | _ => none }
def execLossRow : OpenClaim := { program := "ytanlechpmkpbiaagreatdoor", sum := "84cea12304842cb396cc814e90e8fb6a801eb3a949cfa6958b993a1fe1b5ea5c", func := "tapewright/tapewrightlaw18.ExecLoss", spec := "execLoss", inPlace := ["internal/bytealg.IndexByteString", "internal/bytealg.IndexString", "internal/reflectlite.TypeOf", "internal/reflectlite.ValueOf", "(internal/reflectlite.Value).Type", "(internal/reflectlite.Value).IsNil", "(internal/reflectlite.Value).Elem", "(internal/reflectlite.Value).Set"], unfollowed := true, recurses := true, named := ["unicode/utf8.first", "unicode/utf8.acceptRanges", "tapewright/rat.errForm", "internal/bytealg.MaxLen", "tapewright/rat.errZero", "errors.errorType"], apart := false, laid := [("unicode/utf8.acceptRanges", laid_unicode_utf8_acceptRanges), ("errors.errorType", laid_errors_errorType), ("tapewright/rat.errForm", laid_tapewright_rat_errForm), ("tapewright/rat.errZero", laid_tapewright_rat_errZero), ("unicode/utf8.first", laid_unicode_utf8_first)] }
def ExecLossSaid : Prop := execLossRow.holds Tryz.pinned (OpenSpec.ofChange execLossSpec)

/-- ITS FALSE NEIGHBOUR: 'it returns false'. Refute it at one input. -/
def execLossWrong : ChangeSpec := { name := "execLoss", fn := fun _ => fun
  | [d1, d2, d3] => { results := [.lit (.bool false)], args := [d1, d2, d3] }
  | _ => none }
def ExecLossWrongFalsely : Prop := execLossRow.holds Tryz.pinned (OpenSpec.ofChange execLossWrong)

/- THE SECOND FORM. 'bulk': how many values and letters a reading holds, each counted each time it is reached (what is shared counts as often as it is met; a slice's spare places count too). A statement '..UptoSaid' is the law's where the arguments, and the package variables that the reading takes, are together of bulk at most 1048576: NARROWER than '..Said'. Prove '..Said' where nothing that the law and all that it calls make is longer than what came in: it says more and counts as full. Else prove '..UptoSaid'. A law counts once. -/
mutual
def uptoBulk {H : Type} : DataW H → Nat
  | .lit (.string bytes) => bytes.length + 1
  | .lit _ => 1
  | .nil => 1
  | .ptr d => uptoBulk d + 1
  | .slice elems spare => uptoBulkAll elems + uptoBulkAll spare + 1
  | .agg parts => uptoBulkAll parts + 1
  | .iface _ d => uptoBulk d + 1
  | .map entries => uptoBulkEntries entries + 1
  | .held _ => 1
def uptoBulkAll {H : Type} : List (DataW H) → Nat
  | [] => 0
  | d :: r => uptoBulk d + uptoBulkAll r
def uptoBulkEntries {H : Type} : List (Lit × DataW H) → Nat
  | [] => 0
  | x :: r => uptoBulkEntry x + uptoBulkEntries r
def uptoBulkEntry {H : Type} : Lit × DataW H → Nat
  | (.string bytes, d) => bytes.length + uptoBulk d + 1
  | (_, d) => uptoBulk d + 1
 end
def uptoSmall : (H : Type) → List (DataW H) → Bool := fun _ ds => decide (uptoBulkAll ds ≤ 1048576)
def OpenSpec.upto (s : _root_.Go.ChangeSpec) : _root_.Go.OpenSpec := { _root_.Go.OpenSpec.ofChange s with cond := some uptoSmall }

/-- 'tapewrightlaw14.FoldOnce', WHERE WHAT IT READS IS OF BULK AT MOST 1048576: true; the input reads as it did. -/
def foldOnceUptoRow : OpenClaim := { program := "ytanlechpmkpbiaagreatdoor", sum := "84cea12304842cb396cc814e90e8fb6a801eb3a949cfa6958b993a1fe1b5ea5c", func := "tapewright/tapewrightlaw14.FoldOnce", spec := "foldOnce", inPlace := ["internal/bytealg.IndexByteString", "internal/bytealg.IndexString", "internal/reflectlite.TypeOf", "internal/reflectlite.ValueOf", "(internal/reflectlite.Value).Type", "(internal/reflectlite.Value).IsNil", "(internal/reflectlite.Value).Elem", "(internal/reflectlite.Value).Set"], unfollowed := true, recurses := true, named := ["unicode/utf8.first", "unicode/utf8.acceptRanges", "tapewright/rat.errForm", "internal/bytealg.MaxLen", "tapewright/rat.errZero", "errors.errorType"], apart := false, laid := [("unicode/utf8.acceptRanges", laid_unicode_utf8_acceptRanges), ("errors.errorType", laid_errors_errorType), ("tapewright/rat.errForm", laid_tapewright_rat_errForm), ("tapewright/rat.errZero", laid_tapewright_rat_errZero), ("unicode/utf8.first", laid_unicode_utf8_first)], narrowed := true }
def FoldOnceUptoSaid : Prop := foldOnceUptoRow.holds Tryz.pinned (OpenSpec.upto foldOnceSpec)

/-- 'tapewrightlaw12.EvalScale', WHERE WHAT IT READS IS OF BULK AT MOST 1048576: true; the input reads as it did. -/
def evalScaleUptoRow : OpenClaim := { program := "ytanlechpmkpbiaagreatdoor", sum := "84cea12304842cb396cc814e90e8fb6a801eb3a949cfa6958b993a1fe1b5ea5c", func := "tapewright/tapewrightlaw12.EvalScale", spec := "evalScale", inPlace := ["internal/bytealg.IndexByteString", "internal/bytealg.IndexString", "internal/reflectlite.TypeOf", "internal/reflectlite.ValueOf", "(internal/reflectlite.Value).Type", "(internal/reflectlite.Value).IsNil", "(internal/reflectlite.Value).Elem", "(internal/reflectlite.Value).Set"], unfollowed := true, recurses := true, named := ["tapewright/rat.errForm", "internal/bytealg.MaxLen", "tapewright/rat.errZero", "unicode/utf8.first", "unicode/utf8.acceptRanges", "errors.errorType"], apart := false, laid := [("unicode/utf8.acceptRanges", laid_unicode_utf8_acceptRanges), ("errors.errorType", laid_errors_errorType), ("tapewright/rat.errForm", laid_tapewright_rat_errForm), ("tapewright/rat.errZero", laid_tapewright_rat_errZero), ("unicode/utf8.first", laid_unicode_utf8_first)], narrowed := true }
def EvalScaleUptoSaid : Prop := evalScaleUptoRow.holds Tryz.pinned (OpenSpec.upto evalScaleSpec)

/-- 'tapewrightlaw14.FoldKeeps', WHERE WHAT IT READS IS OF BULK AT MOST 1048576: true; the input reads as it did. -/
def foldKeepsUptoRow : OpenClaim := { program := "ytanlechpmkpbiaagreatdoor", sum := "84cea12304842cb396cc814e90e8fb6a801eb3a949cfa6958b993a1fe1b5ea5c", func := "tapewright/tapewrightlaw14.FoldKeeps", spec := "foldKeeps", inPlace := ["internal/bytealg.IndexByteString", "internal/bytealg.IndexString", "internal/reflectlite.TypeOf", "internal/reflectlite.ValueOf", "(internal/reflectlite.Value).Type", "(internal/reflectlite.Value).IsNil", "(internal/reflectlite.Value).Elem", "(internal/reflectlite.Value).Set"], unfollowed := true, recurses := true, named := ["unicode/utf8.first", "unicode/utf8.acceptRanges", "tapewright/rat.errForm", "internal/bytealg.MaxLen", "tapewright/rat.errZero", "errors.errorType"], apart := false, laid := [("unicode/utf8.acceptRanges", laid_unicode_utf8_acceptRanges), ("errors.errorType", laid_errors_errorType), ("tapewright/rat.errForm", laid_tapewright_rat_errForm), ("tapewright/rat.errZero", laid_tapewright_rat_errZero), ("unicode/utf8.first", laid_unicode_utf8_first)], narrowed := true }
def FoldKeepsUptoSaid : Prop := foldKeepsUptoRow.holds Tryz.pinned (OpenSpec.upto foldKeepsSpec)

/-- 'tapewrightlaw12.EvalAll', WHERE WHAT IT READS IS OF BULK AT MOST 1048576: true; the input reads as it did. -/
def evalAllUptoRow : OpenClaim := { program := "ytanlechpmkpbiaagreatdoor", sum := "84cea12304842cb396cc814e90e8fb6a801eb3a949cfa6958b993a1fe1b5ea5c", func := "tapewright/tapewrightlaw12.EvalAll", spec := "evalAll", inPlace := ["internal/bytealg.IndexByteString", "internal/bytealg.IndexString", "internal/reflectlite.TypeOf", "internal/reflectlite.ValueOf", "(internal/reflectlite.Value).Type", "(internal/reflectlite.Value).IsNil", "(internal/reflectlite.Value).Elem", "(internal/reflectlite.Value).Set"], unfollowed := true, recurses := true, named := ["unicode/utf8.first", "unicode/utf8.acceptRanges", "tapewright/rat.errForm", "internal/bytealg.MaxLen", "tapewright/rat.errZero", "errors.errorType"], apart := false, laid := [("unicode/utf8.acceptRanges", laid_unicode_utf8_acceptRanges), ("errors.errorType", laid_errors_errorType), ("tapewright/rat.errForm", laid_tapewright_rat_errForm), ("tapewright/rat.errZero", laid_tapewright_rat_errZero), ("unicode/utf8.first", laid_unicode_utf8_first)], narrowed := true }
def EvalAllUptoSaid : Prop := evalAllUptoRow.holds Tryz.pinned (OpenSpec.upto evalAllSpec)

/-- 'tapewrightlaw16.DeadKeeps', WHERE WHAT IT READS IS OF BULK AT MOST 1048576: true; the input reads as it did. -/
def deadKeepsUptoRow : OpenClaim := { program := "ytanlechpmkpbiaagreatdoor", sum := "84cea12304842cb396cc814e90e8fb6a801eb3a949cfa6958b993a1fe1b5ea5c", func := "tapewright/tapewrightlaw16.DeadKeeps", spec := "deadKeeps", inPlace := ["internal/bytealg.IndexByteString", "internal/bytealg.IndexString", "internal/reflectlite.TypeOf", "internal/reflectlite.ValueOf", "(internal/reflectlite.Value).Type", "(internal/reflectlite.Value).IsNil", "(internal/reflectlite.Value).Elem", "(internal/reflectlite.Value).Set"], unfollowed := true, recurses := true, named := ["unicode/utf8.first", "unicode/utf8.acceptRanges", "tapewright/rat.errForm", "internal/bytealg.MaxLen", "tapewright/rat.errZero", "errors.errorType"], apart := false, laid := [("unicode/utf8.acceptRanges", laid_unicode_utf8_acceptRanges), ("errors.errorType", laid_errors_errorType), ("tapewright/rat.errForm", laid_tapewright_rat_errForm), ("tapewright/rat.errZero", laid_tapewright_rat_errZero), ("unicode/utf8.first", laid_unicode_utf8_first)], narrowed := true }
def DeadKeepsUptoSaid : Prop := deadKeepsUptoRow.holds Tryz.pinned (OpenSpec.upto deadKeepsSpec)

/-- 'tapewrightlaw18.ExecRuns', WHERE WHAT IT READS IS OF BULK AT MOST 1048576: true; the input reads as it did. -/
def execRunsUptoRow : OpenClaim := { program := "ytanlechpmkpbiaagreatdoor", sum := "84cea12304842cb396cc814e90e8fb6a801eb3a949cfa6958b993a1fe1b5ea5c", func := "tapewright/tapewrightlaw18.ExecRuns", spec := "execRuns", inPlace := ["internal/bytealg.IndexByteString", "internal/bytealg.IndexString", "internal/reflectlite.TypeOf", "internal/reflectlite.ValueOf", "(internal/reflectlite.Value).Type", "(internal/reflectlite.Value).IsNil", "(internal/reflectlite.Value).Elem", "(internal/reflectlite.Value).Set"], unfollowed := true, recurses := true, named := ["unicode/utf8.first", "unicode/utf8.acceptRanges", "tapewright/rat.errForm", "internal/bytealg.MaxLen", "tapewright/rat.errZero", "errors.errorType"], apart := false, laid := [("unicode/utf8.acceptRanges", laid_unicode_utf8_acceptRanges), ("errors.errorType", laid_errors_errorType), ("tapewright/rat.errForm", laid_tapewright_rat_errForm), ("tapewright/rat.errZero", laid_tapewright_rat_errZero), ("unicode/utf8.first", laid_unicode_utf8_first)], narrowed := true }
def ExecRunsUptoSaid : Prop := execRunsUptoRow.holds Tryz.pinned (OpenSpec.upto execRunsSpec)

/-- 'tapewrightlaw18.ExecSteps', WHERE WHAT IT READS IS OF BULK AT MOST 1048576: true; the input reads as it did. -/
def execStepsUptoRow : OpenClaim := { program := "ytanlechpmkpbiaagreatdoor", sum := "84cea12304842cb396cc814e90e8fb6a801eb3a949cfa6958b993a1fe1b5ea5c", func := "tapewright/tapewrightlaw18.ExecSteps", spec := "execSteps", inPlace := ["internal/bytealg.IndexByteString", "internal/bytealg.IndexString", "internal/reflectlite.TypeOf", "internal/reflectlite.ValueOf", "(internal/reflectlite.Value).Type", "(internal/reflectlite.Value).IsNil", "(internal/reflectlite.Value).Elem", "(internal/reflectlite.Value).Set"], unfollowed := true, recurses := true, named := ["unicode/utf8.first", "unicode/utf8.acceptRanges", "tapewright/rat.errForm", "internal/bytealg.MaxLen", "tapewright/rat.errZero", "errors.errorType"], apart := false, laid := [("unicode/utf8.acceptRanges", laid_unicode_utf8_acceptRanges), ("errors.errorType", laid_errors_errorType), ("tapewright/rat.errForm", laid_tapewright_rat_errForm), ("tapewright/rat.errZero", laid_tapewright_rat_errZero), ("unicode/utf8.first", laid_unicode_utf8_first)], narrowed := true }
def ExecStepsUptoSaid : Prop := execStepsUptoRow.holds Tryz.pinned (OpenSpec.upto execStepsSpec)

/-- 'tapewrightlaw18.ExecLoss', WHERE WHAT IT READS IS OF BULK AT MOST 1048576: true; the input reads as it did. -/
def execLossUptoRow : OpenClaim := { program := "ytanlechpmkpbiaagreatdoor", sum := "84cea12304842cb396cc814e90e8fb6a801eb3a949cfa6958b993a1fe1b5ea5c", func := "tapewright/tapewrightlaw18.ExecLoss", spec := "execLoss", inPlace := ["internal/bytealg.IndexByteString", "internal/bytealg.IndexString", "internal/reflectlite.TypeOf", "internal/reflectlite.ValueOf", "(internal/reflectlite.Value).Type", "(internal/reflectlite.Value).IsNil", "(internal/reflectlite.Value).Elem", "(internal/reflectlite.Value).Set"], unfollowed := true, recurses := true, named := ["unicode/utf8.first", "unicode/utf8.acceptRanges", "tapewright/rat.errForm", "internal/bytealg.MaxLen", "tapewright/rat.errZero", "errors.errorType"], apart := false, laid := [("unicode/utf8.acceptRanges", laid_unicode_utf8_acceptRanges), ("errors.errorType", laid_errors_errorType), ("tapewright/rat.errForm", laid_tapewright_rat_errForm), ("tapewright/rat.errZero", laid_tapewright_rat_errZero), ("unicode/utf8.first", laid_unicode_utf8_first)], narrowed := true }
def ExecLossUptoSaid : Prop := execLossUptoRow.holds Tryz.pinned (OpenSpec.upto execLossSpec)

end Rows
end Go.Proofs.YtanlechpmkpbiaaGreatDoor
