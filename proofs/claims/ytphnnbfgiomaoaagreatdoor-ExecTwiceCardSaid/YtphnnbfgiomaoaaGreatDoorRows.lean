/-
  NARROWER THAN 'FOR EVERY INPUT', by the rows' own cells (each row's printed sentence says how): AdjointMakes: laid · AdjointSlopes: laid · AdjointTimes: laid · AdjointConst: laid · AdjointLine: laid · AdjointNone: laid · CseKeeps: laid · ExecTights: laid · ExecTwice: laid · ExecSmall: laid · ExecKeeps: laid.
  DERIVED. THE GIVEN ROWS OF THIS SEAT. 11 by the template 'for every input the law returns true; each argument reads behind the call as it read before'; 0 by the template 'total and deterministic' (their statements: YtphnnbfgiomaoaaGreatDoorTotals.lean).
  GIVEN WITH THE SEED: the statements are not yours to turn. If you find one false, say at which input.
  Laid BY PROGRAM, IN A SANDBOX (cutbox-rows.mjs): the forced cells as the released guide's own fill.sh prints them over the translation fa4bce761d613b1f… (all of the seat's roots in one cut). By AI agents, Wed Nov 11 2026. No macro, syntax, notation, axiom, sorry.
-/
import Derived.Test.YtphnnbfgiomaoaaGreatDoorChecked
import GoSem.PinnedTables
import GoSem.Claim
import GoSem.ClaimJoined
import GoSem.ClaimMapViews
import Derived.JoinedTies
import Derived.KernelRfl
namespace Go.Proofs.YtphnnbfgiomaoaaGreatDoor
/- THE CELL 'sum', in the pinned program and in every row, IS THE sha256 OF THE DUMP (.gsa) THAT YtphnnbfgiomaoaaGreatDoorProg.lean LOADS. Nothing in Lean hashes anything: it is a label: what it is worth is what the hold of that sum in a sandbox is worth. -/
noncomputable def Tryz.pinned : Pinned := { name := "ytphnnbfgiomaoaagreatdoor", sum := "fa4bce761d613b1f426efb7031cc56b6be076b75a7dfd0dfcdd4b9a3022bf247", checked := Tryz.checked }
namespace Rows
def none {H : Type} : Left H := { results := [], args := [] }

/- WHAT THE LISTED PACKAGE-LEVEL VARIABLES READ AS WHEN THE CALL BEGINS. Each datum BY PROGRAM (the guide's laid-datum.mjs) off the statement by which the dump's own 'gosem.cut.vars' lays the variable. In a bare row this is a premise. The card (YtphnnbfgiomaoaaGreatDoorCards.lean) ties it to the program's text. -/
def laid_math_bits_deBruijn32tab {H : Type} : DataW H := .agg [.lit (.int .u8 0), .lit (.int .u8 1), .lit (.int .u8 28), .lit (.int .u8 2), .lit (.int .u8 29), .lit (.int .u8 14), .lit (.int .u8 24), .lit (.int .u8 3), .lit (.int .u8 30), .lit (.int .u8 22), .lit (.int .u8 20), .lit (.int .u8 15), .lit (.int .u8 25), .lit (.int .u8 17), .lit (.int .u8 4), .lit (.int .u8 8), .lit (.int .u8 31), .lit (.int .u8 27), .lit (.int .u8 13), .lit (.int .u8 23), .lit (.int .u8 21), .lit (.int .u8 19), .lit (.int .u8 16), .lit (.int .u8 7), .lit (.int .u8 26), .lit (.int .u8 12), .lit (.int .u8 18), .lit (.int .u8 6), .lit (.int .u8 11), .lit (.int .u8 5), .lit (.int .u8 10), .lit (.int .u8 9)]
def laid_math_bits_deBruijn64tab {H : Type} : DataW H := .agg [.lit (.int .u8 0), .lit (.int .u8 1), .lit (.int .u8 56), .lit (.int .u8 2), .lit (.int .u8 57), .lit (.int .u8 49), .lit (.int .u8 28), .lit (.int .u8 3), .lit (.int .u8 61), .lit (.int .u8 58), .lit (.int .u8 42), .lit (.int .u8 50), .lit (.int .u8 38), .lit (.int .u8 29), .lit (.int .u8 17), .lit (.int .u8 4), .lit (.int .u8 62), .lit (.int .u8 47), .lit (.int .u8 59), .lit (.int .u8 36), .lit (.int .u8 45), .lit (.int .u8 43), .lit (.int .u8 51), .lit (.int .u8 22), .lit (.int .u8 53), .lit (.int .u8 39), .lit (.int .u8 33), .lit (.int .u8 30), .lit (.int .u8 24), .lit (.int .u8 18), .lit (.int .u8 12), .lit (.int .u8 5), .lit (.int .u8 63), .lit (.int .u8 55), .lit (.int .u8 48), .lit (.int .u8 27), .lit (.int .u8 60), .lit (.int .u8 41), .lit (.int .u8 37), .lit (.int .u8 16), .lit (.int .u8 46), .lit (.int .u8 35), .lit (.int .u8 44), .lit (.int .u8 21), .lit (.int .u8 52), .lit (.int .u8 32), .lit (.int .u8 23), .lit (.int .u8 11), .lit (.int .u8 54), .lit (.int .u8 26), .lit (.int .u8 40), .lit (.int .u8 15), .lit (.int .u8 34), .lit (.int .u8 20), .lit (.int .u8 31), .lit (.int .u8 10), .lit (.int .u8 25), .lit (.int .u8 14), .lit (.int .u8 19), .lit (.int .u8 9), .lit (.int .u8 13), .lit (.int .u8 8), .lit (.int .u8 7), .lit (.int .u8 6)]
def laid_internal_strconv_uint64pow10 {H : Type} : DataW H := .agg [.lit (.int .u64 1), .lit (.int .u64 10), .lit (.int .u64 100), .lit (.int .u64 1000), .lit (.int .u64 10000), .lit (.int .u64 100000), .lit (.int .u64 1000000), .lit (.int .u64 10000000), .lit (.int .u64 100000000), .lit (.int .u64 1000000000), .lit (.int .u64 10000000000), .lit (.int .u64 100000000000), .lit (.int .u64 1000000000000), .lit (.int .u64 10000000000000), .lit (.int .u64 100000000000000), .lit (.int .u64 1000000000000000), .lit (.int .u64 10000000000000000), .lit (.int .u64 100000000000000000), .lit (.int .u64 1000000000000000000), .lit (.int .u64 10000000000000000000)]
def laid_unicode_utf8_acceptRanges {H : Type} : DataW H := .agg [.agg [.lit (.int .u8 128), .lit (.int .u8 191)], .agg [.lit (.int .u8 160), .lit (.int .u8 191)], .agg [.lit (.int .u8 128), .lit (.int .u8 159)], .agg [.lit (.int .u8 144), .lit (.int .u8 191)], .agg [.lit (.int .u8 128), .lit (.int .u8 143)], .agg [.lit (.int .u8 0), .lit (.int .u8 0)], .agg [.lit (.int .u8 0), .lit (.int .u8 0)], .agg [.lit (.int .u8 0), .lit (.int .u8 0)], .agg [.lit (.int .u8 0), .lit (.int .u8 0)], .agg [.lit (.int .u8 0), .lit (.int .u8 0)], .agg [.lit (.int .u8 0), .lit (.int .u8 0)], .agg [.lit (.int .u8 0), .lit (.int .u8 0)], .agg [.lit (.int .u8 0), .lit (.int .u8 0)], .agg [.lit (.int .u8 0), .lit (.int .u8 0)], .agg [.lit (.int .u8 0), .lit (.int .u8 0)], .agg [.lit (.int .u8 0), .lit (.int .u8 0)]]
def laid_errors_errorType {H : Type} : DataW H := .iface "internal/reflectlite.rtype" (.agg [.ptr (.lit (.string [101, 114, 114, 111, 114]))])
def laid_tapewright_rat_errForm {H : Type} : DataW H := .iface "*errors.errorString" (.ptr (.agg [.lit (.string [110, 111, 32, 114, 97, 116, 105, 111, 110, 97, 108])]))
def laid_tapewright_rat_errZero {H : Type} : DataW H := .iface "*errors.errorString" (.ptr (.agg [.lit (.string [98, 121, 32, 110, 111, 117, 103, 104, 116])]))
/-- One of Go's own tables, pinned by name: the form's constant. -/
def laid_unicode_utf8_first : DataW Unit := Go.Pinned.utf8First

/-- 'tapewrightlaw13.AdjointMakes': WHATEVER THE INPUT: true; the input reads as it did. -/
def adjointMakesSpec : ChangeSpec := { name := "adjointMakes", fn := fun _ => fun
  | [d] => { results := [.lit (.bool true)], args := [d] }
  | _ => none }
def adjointMakesRow : OpenClaim := { program := "ytphnnbfgiomaoaagreatdoor", sum := "fa4bce761d613b1f426efb7031cc56b6be076b75a7dfd0dfcdd4b9a3022bf247", func := "tapewright/tapewrightlaw13.AdjointMakes", spec := "adjointMakes", inPlace := ["internal/bytealg.IndexByteString", "internal/bytealg.IndexString", "internal/reflectlite.TypeOf", "internal/reflectlite.ValueOf", "(internal/reflectlite.Value).Type", "(internal/reflectlite.Value).IsNil", "(internal/reflectlite.Value).Elem", "(internal/reflectlite.Value).Set"], unfollowed := true, recurses := true, named := ["unicode/utf8.first", "unicode/utf8.acceptRanges", "tapewright/rat.errForm", "internal/bytealg.MaxLen", "tapewright/rat.errZero", "internal/strconv.uint64pow10", "math/bits.deBruijn32tab", "math/bits.deBruijn64tab", "errors.errorType"], apart := false, laid := [("math/bits.deBruijn32tab", laid_math_bits_deBruijn32tab), ("math/bits.deBruijn64tab", laid_math_bits_deBruijn64tab), ("internal/strconv.uint64pow10", laid_internal_strconv_uint64pow10), ("unicode/utf8.acceptRanges", laid_unicode_utf8_acceptRanges), ("errors.errorType", laid_errors_errorType), ("tapewright/rat.errForm", laid_tapewright_rat_errForm), ("tapewright/rat.errZero", laid_tapewright_rat_errZero), ("unicode/utf8.first", laid_unicode_utf8_first)] }
def AdjointMakesSaid : Prop := adjointMakesRow.holds Tryz.pinned (OpenSpec.ofChange adjointMakesSpec)

/-- ITS FALSE NEIGHBOUR: 'it returns false'. Refute it at one input. -/
def adjointMakesWrong : ChangeSpec := { name := "adjointMakes", fn := fun _ => fun
  | [d] => { results := [.lit (.bool false)], args := [d] }
  | _ => none }
def AdjointMakesWrongFalsely : Prop := adjointMakesRow.holds Tryz.pinned (OpenSpec.ofChange adjointMakesWrong)

/-- 'tapewrightlaw13.AdjointSlopes': WHATEVER THE INPUT: true; the input reads as it did. -/
def adjointSlopesSpec : ChangeSpec := { name := "adjointSlopes", fn := fun _ => fun
  | [d1, d2] => { results := [.lit (.bool true)], args := [d1, d2] }
  | _ => none }
def adjointSlopesRow : OpenClaim := { program := "ytphnnbfgiomaoaagreatdoor", sum := "fa4bce761d613b1f426efb7031cc56b6be076b75a7dfd0dfcdd4b9a3022bf247", func := "tapewright/tapewrightlaw13.AdjointSlopes", spec := "adjointSlopes", inPlace := ["internal/bytealg.IndexByteString", "internal/bytealg.IndexString", "internal/reflectlite.TypeOf", "internal/reflectlite.ValueOf", "(internal/reflectlite.Value).Type", "(internal/reflectlite.Value).IsNil", "(internal/reflectlite.Value).Elem", "(internal/reflectlite.Value).Set"], unfollowed := true, recurses := true, named := ["unicode/utf8.first", "unicode/utf8.acceptRanges", "tapewright/rat.errForm", "internal/bytealg.MaxLen", "tapewright/rat.errZero", "internal/strconv.uint64pow10", "math/bits.deBruijn32tab", "math/bits.deBruijn64tab", "errors.errorType"], apart := false, laid := [("math/bits.deBruijn32tab", laid_math_bits_deBruijn32tab), ("math/bits.deBruijn64tab", laid_math_bits_deBruijn64tab), ("internal/strconv.uint64pow10", laid_internal_strconv_uint64pow10), ("unicode/utf8.acceptRanges", laid_unicode_utf8_acceptRanges), ("errors.errorType", laid_errors_errorType), ("tapewright/rat.errForm", laid_tapewright_rat_errForm), ("tapewright/rat.errZero", laid_tapewright_rat_errZero), ("unicode/utf8.first", laid_unicode_utf8_first)] }
def AdjointSlopesSaid : Prop := adjointSlopesRow.holds Tryz.pinned (OpenSpec.ofChange adjointSlopesSpec)

/-- ITS FALSE NEIGHBOUR: 'it returns false'. Refute it at one input. -/
def adjointSlopesWrong : ChangeSpec := { name := "adjointSlopes", fn := fun _ => fun
  | [d1, d2] => { results := [.lit (.bool false)], args := [d1, d2] }
  | _ => none }
def AdjointSlopesWrongFalsely : Prop := adjointSlopesRow.holds Tryz.pinned (OpenSpec.ofChange adjointSlopesWrong)

/-- 'tapewrightlaw13.AdjointTimes': WHATEVER THE INPUT: true; the input reads as it did. -/
def adjointTimesSpec : ChangeSpec := { name := "adjointTimes", fn := fun _ => fun
  | [d1, d2, d3] => { results := [.lit (.bool true)], args := [d1, d2, d3] }
  | _ => none }
def adjointTimesRow : OpenClaim := { program := "ytphnnbfgiomaoaagreatdoor", sum := "fa4bce761d613b1f426efb7031cc56b6be076b75a7dfd0dfcdd4b9a3022bf247", func := "tapewright/tapewrightlaw13.AdjointTimes", spec := "adjointTimes", inPlace := ["internal/bytealg.IndexByteString", "internal/bytealg.IndexString", "internal/reflectlite.TypeOf", "internal/reflectlite.ValueOf", "(internal/reflectlite.Value).Type", "(internal/reflectlite.Value).IsNil", "(internal/reflectlite.Value).Elem", "(internal/reflectlite.Value).Set"], unfollowed := true, recurses := true, named := ["unicode/utf8.first", "unicode/utf8.acceptRanges", "tapewright/rat.errForm", "internal/bytealg.MaxLen", "tapewright/rat.errZero", "internal/strconv.uint64pow10", "math/bits.deBruijn32tab", "math/bits.deBruijn64tab", "errors.errorType"], apart := false, laid := [("math/bits.deBruijn32tab", laid_math_bits_deBruijn32tab), ("math/bits.deBruijn64tab", laid_math_bits_deBruijn64tab), ("internal/strconv.uint64pow10", laid_internal_strconv_uint64pow10), ("unicode/utf8.acceptRanges", laid_unicode_utf8_acceptRanges), ("errors.errorType", laid_errors_errorType), ("tapewright/rat.errForm", laid_tapewright_rat_errForm), ("tapewright/rat.errZero", laid_tapewright_rat_errZero), ("unicode/utf8.first", laid_unicode_utf8_first)] }
def AdjointTimesSaid : Prop := adjointTimesRow.holds Tryz.pinned (OpenSpec.ofChange adjointTimesSpec)

/-- ITS FALSE NEIGHBOUR: 'it returns false'. Refute it at one input. -/
def adjointTimesWrong : ChangeSpec := { name := "adjointTimes", fn := fun _ => fun
  | [d1, d2, d3] => { results := [.lit (.bool false)], args := [d1, d2, d3] }
  | _ => none }
def AdjointTimesWrongFalsely : Prop := adjointTimesRow.holds Tryz.pinned (OpenSpec.ofChange adjointTimesWrong)

/-- 'tapewrightlaw13.AdjointConst': WHATEVER THE INPUT: true; the input reads as it did. -/
def adjointConstSpec : ChangeSpec := { name := "adjointConst", fn := fun _ => fun
  | [d1, d2] => { results := [.lit (.bool true)], args := [d1, d2] }
  | _ => none }
def adjointConstRow : OpenClaim := { program := "ytphnnbfgiomaoaagreatdoor", sum := "fa4bce761d613b1f426efb7031cc56b6be076b75a7dfd0dfcdd4b9a3022bf247", func := "tapewright/tapewrightlaw13.AdjointConst", spec := "adjointConst", inPlace := ["internal/bytealg.IndexByteString", "internal/bytealg.IndexString", "internal/reflectlite.TypeOf", "internal/reflectlite.ValueOf", "(internal/reflectlite.Value).Type", "(internal/reflectlite.Value).IsNil", "(internal/reflectlite.Value).Elem", "(internal/reflectlite.Value).Set"], unfollowed := true, recurses := true, named := ["unicode/utf8.first", "unicode/utf8.acceptRanges", "tapewright/rat.errForm", "internal/bytealg.MaxLen", "tapewright/rat.errZero", "internal/strconv.uint64pow10", "math/bits.deBruijn32tab", "math/bits.deBruijn64tab", "errors.errorType"], apart := false, laid := [("math/bits.deBruijn32tab", laid_math_bits_deBruijn32tab), ("math/bits.deBruijn64tab", laid_math_bits_deBruijn64tab), ("internal/strconv.uint64pow10", laid_internal_strconv_uint64pow10), ("unicode/utf8.acceptRanges", laid_unicode_utf8_acceptRanges), ("errors.errorType", laid_errors_errorType), ("tapewright/rat.errForm", laid_tapewright_rat_errForm), ("tapewright/rat.errZero", laid_tapewright_rat_errZero), ("unicode/utf8.first", laid_unicode_utf8_first)] }
def AdjointConstSaid : Prop := adjointConstRow.holds Tryz.pinned (OpenSpec.ofChange adjointConstSpec)

/-- ITS FALSE NEIGHBOUR: 'it returns false'. Refute it at one input. -/
def adjointConstWrong : ChangeSpec := { name := "adjointConst", fn := fun _ => fun
  | [d1, d2] => { results := [.lit (.bool false)], args := [d1, d2] }
  | _ => none }
def AdjointConstWrongFalsely : Prop := adjointConstRow.holds Tryz.pinned (OpenSpec.ofChange adjointConstWrong)

/-- 'tapewrightlaw13.AdjointLine': WHATEVER THE INPUT: true; the input reads as it did. -/
def adjointLineSpec : ChangeSpec := { name := "adjointLine", fn := fun _ => fun
  | [d1, d2] => { results := [.lit (.bool true)], args := [d1, d2] }
  | _ => none }
def adjointLineRow : OpenClaim := { program := "ytphnnbfgiomaoaagreatdoor", sum := "fa4bce761d613b1f426efb7031cc56b6be076b75a7dfd0dfcdd4b9a3022bf247", func := "tapewright/tapewrightlaw13.AdjointLine", spec := "adjointLine", inPlace := ["internal/bytealg.IndexByteString", "internal/bytealg.IndexString", "internal/reflectlite.TypeOf", "internal/reflectlite.ValueOf", "(internal/reflectlite.Value).Type", "(internal/reflectlite.Value).IsNil", "(internal/reflectlite.Value).Elem", "(internal/reflectlite.Value).Set"], unfollowed := true, recurses := true, named := ["unicode/utf8.first", "unicode/utf8.acceptRanges", "tapewright/rat.errForm", "internal/bytealg.MaxLen", "tapewright/rat.errZero", "internal/strconv.uint64pow10", "math/bits.deBruijn32tab", "math/bits.deBruijn64tab", "errors.errorType"], apart := false, laid := [("math/bits.deBruijn32tab", laid_math_bits_deBruijn32tab), ("math/bits.deBruijn64tab", laid_math_bits_deBruijn64tab), ("internal/strconv.uint64pow10", laid_internal_strconv_uint64pow10), ("unicode/utf8.acceptRanges", laid_unicode_utf8_acceptRanges), ("errors.errorType", laid_errors_errorType), ("tapewright/rat.errForm", laid_tapewright_rat_errForm), ("tapewright/rat.errZero", laid_tapewright_rat_errZero), ("unicode/utf8.first", laid_unicode_utf8_first)] }
def AdjointLineSaid : Prop := adjointLineRow.holds Tryz.pinned (OpenSpec.ofChange adjointLineSpec)

/-- ITS FALSE NEIGHBOUR: 'it returns false'. Refute it at one input. -/
def adjointLineWrong : ChangeSpec := { name := "adjointLine", fn := fun _ => fun
  | [d1, d2] => { results := [.lit (.bool false)], args := [d1, d2] }
  | _ => none }
def AdjointLineWrongFalsely : Prop := adjointLineRow.holds Tryz.pinned (OpenSpec.ofChange adjointLineWrong)

/-- 'tapewrightlaw13.AdjointNone': WHATEVER THE INPUT: true; the input reads as it did. -/
def adjointNoneSpec : ChangeSpec := { name := "adjointNone", fn := fun _ => fun
  | [d1, d2] => { results := [.lit (.bool true)], args := [d1, d2] }
  | _ => none }
def adjointNoneRow : OpenClaim := { program := "ytphnnbfgiomaoaagreatdoor", sum := "fa4bce761d613b1f426efb7031cc56b6be076b75a7dfd0dfcdd4b9a3022bf247", func := "tapewright/tapewrightlaw13.AdjointNone", spec := "adjointNone", inPlace := ["internal/bytealg.IndexByteString", "internal/bytealg.IndexString", "internal/reflectlite.TypeOf", "internal/reflectlite.ValueOf", "(internal/reflectlite.Value).Type", "(internal/reflectlite.Value).IsNil", "(internal/reflectlite.Value).Elem", "(internal/reflectlite.Value).Set"], unfollowed := true, recurses := true, named := ["unicode/utf8.first", "unicode/utf8.acceptRanges", "tapewright/rat.errForm", "internal/bytealg.MaxLen", "tapewright/rat.errZero", "internal/strconv.uint64pow10", "math/bits.deBruijn32tab", "math/bits.deBruijn64tab", "errors.errorType"], apart := false, laid := [("math/bits.deBruijn32tab", laid_math_bits_deBruijn32tab), ("math/bits.deBruijn64tab", laid_math_bits_deBruijn64tab), ("internal/strconv.uint64pow10", laid_internal_strconv_uint64pow10), ("unicode/utf8.acceptRanges", laid_unicode_utf8_acceptRanges), ("errors.errorType", laid_errors_errorType), ("tapewright/rat.errForm", laid_tapewright_rat_errForm), ("tapewright/rat.errZero", laid_tapewright_rat_errZero), ("unicode/utf8.first", laid_unicode_utf8_first)] }
def AdjointNoneSaid : Prop := adjointNoneRow.holds Tryz.pinned (OpenSpec.ofChange adjointNoneSpec)

/-- ITS FALSE NEIGHBOUR: 'it returns false'. Refute it at one input. -/
def adjointNoneWrong : ChangeSpec := { name := "adjointNone", fn := fun _ => fun
  | [d1, d2] => { results := [.lit (.bool false)], args := [d1, d2] }
  | _ => none }
def AdjointNoneWrongFalsely : Prop := adjointNoneRow.holds Tryz.pinned (OpenSpec.ofChange adjointNoneWrong)

/-- 'tapewrightlaw15.CseKeeps': WHATEVER THE INPUT: true; the input reads as it did. -/
def cseKeepsSpec : ChangeSpec := { name := "cseKeeps", fn := fun _ => fun
  | [d1, d2] => { results := [.lit (.bool true)], args := [d1, d2] }
  | _ => none }
def cseKeepsRow : OpenClaim := { program := "ytphnnbfgiomaoaagreatdoor", sum := "fa4bce761d613b1f426efb7031cc56b6be076b75a7dfd0dfcdd4b9a3022bf247", func := "tapewright/tapewrightlaw15.CseKeeps", spec := "cseKeeps", inPlace := ["internal/bytealg.IndexByteString", "internal/bytealg.IndexString", "internal/abi.NoEscape", "internal/bytealg.MakeNoZero", "internal/reflectlite.TypeOf", "internal/reflectlite.ValueOf", "(internal/reflectlite.Value).Type", "(internal/reflectlite.Value).IsNil", "(internal/reflectlite.Value).Elem", "(internal/reflectlite.Value).Set"], unfollowed := true, recurses := true, named := ["unicode/utf8.first", "unicode/utf8.acceptRanges", "tapewright/rat.errForm", "internal/bytealg.MaxLen", "tapewright/rat.errZero", "internal/strconv.uint64pow10", "math/bits.deBruijn32tab", "math/bits.deBruijn64tab", "errors.errorType"], apart := false, laid := [("math/bits.deBruijn32tab", laid_math_bits_deBruijn32tab), ("math/bits.deBruijn64tab", laid_math_bits_deBruijn64tab), ("internal/strconv.uint64pow10", laid_internal_strconv_uint64pow10), ("unicode/utf8.acceptRanges", laid_unicode_utf8_acceptRanges), ("errors.errorType", laid_errors_errorType), ("tapewright/rat.errForm", laid_tapewright_rat_errForm), ("tapewright/rat.errZero", laid_tapewright_rat_errZero), ("unicode/utf8.first", laid_unicode_utf8_first)] }
def CseKeepsSaid : Prop := cseKeepsRow.holds Tryz.pinned (OpenSpec.ofChange cseKeepsSpec)

/-- ITS FALSE NEIGHBOUR: 'it returns false'. Refute it at one input. -/
def cseKeepsWrong : ChangeSpec := { name := "cseKeeps", fn := fun _ => fun
  | [d1, d2] => { results := [.lit (.bool false)], args := [d1, d2] }
  | _ => none }
def CseKeepsWrongFalsely : Prop := cseKeepsRow.holds Tryz.pinned (OpenSpec.ofChange cseKeepsWrong)

/-- 'tapewrightlaw18.ExecTights': WHATEVER THE INPUT: true; the input reads as it did. -/
def execTightsSpec : ChangeSpec := { name := "execTights", fn := fun _ => fun
  | [d1, d2] => { results := [.lit (.bool true)], args := [d1, d2] }
  | _ => none }
def execTightsRow : OpenClaim := { program := "ytphnnbfgiomaoaagreatdoor", sum := "fa4bce761d613b1f426efb7031cc56b6be076b75a7dfd0dfcdd4b9a3022bf247", func := "tapewright/tapewrightlaw18.ExecTights", spec := "execTights", inPlace := ["internal/bytealg.IndexByteString", "internal/bytealg.IndexString", "internal/reflectlite.TypeOf", "internal/reflectlite.ValueOf", "(internal/reflectlite.Value).Type", "(internal/reflectlite.Value).IsNil", "(internal/reflectlite.Value).Elem", "(internal/reflectlite.Value).Set", "internal/abi.NoEscape", "internal/bytealg.MakeNoZero"], unfollowed := true, recurses := true, named := ["unicode/utf8.first", "unicode/utf8.acceptRanges", "tapewright/rat.errForm", "internal/bytealg.MaxLen", "tapewright/rat.errZero", "errors.errorType", "internal/strconv.uint64pow10", "math/bits.deBruijn32tab", "math/bits.deBruijn64tab"], apart := false, laid := [("math/bits.deBruijn32tab", laid_math_bits_deBruijn32tab), ("math/bits.deBruijn64tab", laid_math_bits_deBruijn64tab), ("internal/strconv.uint64pow10", laid_internal_strconv_uint64pow10), ("unicode/utf8.acceptRanges", laid_unicode_utf8_acceptRanges), ("errors.errorType", laid_errors_errorType), ("tapewright/rat.errForm", laid_tapewright_rat_errForm), ("tapewright/rat.errZero", laid_tapewright_rat_errZero), ("unicode/utf8.first", laid_unicode_utf8_first)] }
def ExecTightsSaid : Prop := execTightsRow.holds Tryz.pinned (OpenSpec.ofChange execTightsSpec)

/-- ITS FALSE NEIGHBOUR: 'it returns false'. Refute it at one input. -/
def execTightsWrong : ChangeSpec := { name := "execTights", fn := fun _ => fun
  | [d1, d2] => { results := [.lit (.bool false)], args := [d1, d2] }
  | _ => none }
def ExecTightsWrongFalsely : Prop := execTightsRow.holds Tryz.pinned (OpenSpec.ofChange execTightsWrong)

/-- 'tapewrightlaw18.ExecTwice': WHATEVER THE INPUT: true; the input reads as it did. -/
def execTwiceSpec : ChangeSpec := { name := "execTwice", fn := fun _ => fun
  | [d1, d2, d3] => { results := [.lit (.bool true)], args := [d1, d2, d3] }
  | _ => none }
def execTwiceRow : OpenClaim := { program := "ytphnnbfgiomaoaagreatdoor", sum := "fa4bce761d613b1f426efb7031cc56b6be076b75a7dfd0dfcdd4b9a3022bf247", func := "tapewright/tapewrightlaw18.ExecTwice", spec := "execTwice", inPlace := ["internal/bytealg.IndexByteString", "internal/bytealg.IndexString", "internal/reflectlite.TypeOf", "internal/reflectlite.ValueOf", "(internal/reflectlite.Value).Type", "(internal/reflectlite.Value).IsNil", "(internal/reflectlite.Value).Elem", "(internal/reflectlite.Value).Set", "internal/abi.NoEscape", "internal/bytealg.MakeNoZero"], unfollowed := true, recurses := true, named := ["unicode/utf8.first", "unicode/utf8.acceptRanges", "tapewright/rat.errForm", "internal/bytealg.MaxLen", "tapewright/rat.errZero", "errors.errorType", "internal/strconv.uint64pow10", "math/bits.deBruijn32tab", "math/bits.deBruijn64tab"], apart := false, laid := [("math/bits.deBruijn32tab", laid_math_bits_deBruijn32tab), ("math/bits.deBruijn64tab", laid_math_bits_deBruijn64tab), ("internal/strconv.uint64pow10", laid_internal_strconv_uint64pow10), ("unicode/utf8.acceptRanges", laid_unicode_utf8_acceptRanges), ("errors.errorType", laid_errors_errorType), ("tapewright/rat.errForm", laid_tapewright_rat_errForm), ("tapewright/rat.errZero", laid_tapewright_rat_errZero), ("unicode/utf8.first", laid_unicode_utf8_first)] }
def ExecTwiceSaid : Prop := execTwiceRow.holds Tryz.pinned (OpenSpec.ofChange execTwiceSpec)

/-- ITS FALSE NEIGHBOUR: 'it returns false'. Refute it at one input. -/
def execTwiceWrong : ChangeSpec := { name := "execTwice", fn := fun _ => fun
  | [d1, d2, d3] => { results := [.lit (.bool false)], args := [d1, d2, d3] }
  | _ => none }
def ExecTwiceWrongFalsely : Prop := execTwiceRow.holds Tryz.pinned (OpenSpec.ofChange execTwiceWrong)

/-- 'tapewrightlaw18.ExecSmall': WHATEVER THE INPUT: true; the input reads as it did. -/
def execSmallSpec : ChangeSpec := { name := "execSmall", fn := fun _ => fun
  | [d1, d2] => { results := [.lit (.bool true)], args := [d1, d2] }
  | _ => none }
def execSmallRow : OpenClaim := { program := "ytphnnbfgiomaoaagreatdoor", sum := "fa4bce761d613b1f426efb7031cc56b6be076b75a7dfd0dfcdd4b9a3022bf247", func := "tapewright/tapewrightlaw18.ExecSmall", spec := "execSmall", inPlace := ["internal/bytealg.IndexByteString", "internal/bytealg.IndexString", "internal/reflectlite.TypeOf", "internal/reflectlite.ValueOf", "(internal/reflectlite.Value).Type", "(internal/reflectlite.Value).IsNil", "(internal/reflectlite.Value).Elem", "(internal/reflectlite.Value).Set", "internal/abi.NoEscape", "internal/bytealg.MakeNoZero"], unfollowed := true, recurses := true, named := ["unicode/utf8.first", "unicode/utf8.acceptRanges", "tapewright/rat.errForm", "internal/bytealg.MaxLen", "tapewright/rat.errZero", "errors.errorType", "internal/strconv.uint64pow10", "math/bits.deBruijn32tab", "math/bits.deBruijn64tab"], apart := false, laid := [("math/bits.deBruijn32tab", laid_math_bits_deBruijn32tab), ("math/bits.deBruijn64tab", laid_math_bits_deBruijn64tab), ("internal/strconv.uint64pow10", laid_internal_strconv_uint64pow10), ("unicode/utf8.acceptRanges", laid_unicode_utf8_acceptRanges), ("errors.errorType", laid_errors_errorType), ("tapewright/rat.errForm", laid_tapewright_rat_errForm), ("tapewright/rat.errZero", laid_tapewright_rat_errZero), ("unicode/utf8.first", laid_unicode_utf8_first)] }
def ExecSmallSaid : Prop := execSmallRow.holds Tryz.pinned (OpenSpec.ofChange execSmallSpec)

/-- ITS FALSE NEIGHBOUR: 'it returns false'. Refute it at one input. -/
def execSmallWrong : ChangeSpec := { name := "execSmall", fn := fun _ => fun
  | [d1, d2] => { results := [.lit (.bool false)], args := [d1, d2] }
  | _ => none }
def ExecSmallWrongFalsely : Prop := execSmallRow.holds Tryz.pinned (OpenSpec.ofChange execSmallWrong)

/-- 'tapewrightlaw18.ExecKeeps': WHATEVER THE INPUT: true; the input reads as it did. -/
def execKeepsSpec : ChangeSpec := { name := "execKeeps", fn := fun _ => fun
  | [d1, d2, d3] => { results := [.lit (.bool true)], args := [d1, d2, d3] }
  | _ => none }
def execKeepsRow : OpenClaim := { program := "ytphnnbfgiomaoaagreatdoor", sum := "fa4bce761d613b1f426efb7031cc56b6be076b75a7dfd0dfcdd4b9a3022bf247", func := "tapewright/tapewrightlaw18.ExecKeeps", spec := "execKeeps", inPlace := ["internal/bytealg.IndexByteString", "internal/bytealg.IndexString", "internal/reflectlite.TypeOf", "internal/reflectlite.ValueOf", "(internal/reflectlite.Value).Type", "(internal/reflectlite.Value).IsNil", "(internal/reflectlite.Value).Elem", "(internal/reflectlite.Value).Set", "internal/abi.NoEscape", "internal/bytealg.MakeNoZero"], unfollowed := true, recurses := true, named := ["unicode/utf8.first", "unicode/utf8.acceptRanges", "tapewright/rat.errForm", "internal/bytealg.MaxLen", "tapewright/rat.errZero", "errors.errorType", "internal/strconv.uint64pow10", "math/bits.deBruijn32tab", "math/bits.deBruijn64tab"], apart := false, laid := [("math/bits.deBruijn32tab", laid_math_bits_deBruijn32tab), ("math/bits.deBruijn64tab", laid_math_bits_deBruijn64tab), ("internal/strconv.uint64pow10", laid_internal_strconv_uint64pow10), ("unicode/utf8.acceptRanges", laid_unicode_utf8_acceptRanges), ("errors.errorType", laid_errors_errorType), ("tapewright/rat.errForm", laid_tapewright_rat_errForm), ("tapewright/rat.errZero", laid_tapewright_rat_errZero), ("unicode/utf8.first", laid_unicode_utf8_first)] }
def ExecKeepsSaid : Prop := execKeepsRow.holds Tryz.pinned (OpenSpec.ofChange execKeepsSpec)

/-- ITS FALSE NEIGHBOUR: 'it returns false'. Refute it at one input. -/
def execKeepsWrong : ChangeSpec := { name := "execKeeps", fn := fun _ => fun
  | [d1, d2, d3] => { results := [.lit (.bool false)], args := [d1, d2, d3] }
  | _ => none }
def ExecKeepsWrongFalsely : Prop := execKeepsRow.holds Tryz.pinned (OpenSpec.ofChange execKeepsWrong)

/- THE SECOND FORM. 'bulk': how many values and letters a reading holds, each counted each time it is reached (what is shared counts as often as it is met; a slice's spare places count too). A statement '..UptoSaid' is the law's where the arguments, and the package variables that the reading takes, are together of bulk at most 1048576: NARROWER than '..Said'. Prove '..Said' where nothing that the law and all that it calls make is longer than what came in: it says more and counts as full. Else prove '..UptoSaid'. A law counts once. -/
mutual
def uptoBulk {H : Type} : DataW H → Nat
  | .lit (.string bytes) => bytes.length + 1
  | .lit _ => 1
  | .nil => 1
  | .ptr d => uptoBulk d + 1
  | .slice elems spare => uptoBulkAll elems + uptoBulkAll spare + 1
  | .agg parts => uptoBulkAll parts + 1
  | .iface _ d => uptoBulk d + 1
  | .map entries => uptoBulkEntries entries + 1
  | .held _ => 1
def uptoBulkAll {H : Type} : List (DataW H) → Nat
  | [] => 0
  | d :: r => uptoBulk d + uptoBulkAll r
def uptoBulkEntries {H : Type} : List (Lit × DataW H) → Nat
  | [] => 0
  | x :: r => uptoBulkEntry x + uptoBulkEntries r
def uptoBulkEntry {H : Type} : Lit × DataW H → Nat
  | (.string bytes, d) => bytes.length + uptoBulk d + 1
  | (_, d) => uptoBulk d + 1
 end
def uptoSmall : (H : Type) → List (DataW H) → Bool := fun _ ds => decide (uptoBulkAll ds ≤ 1048576)
def OpenSpec.upto (s : _root_.Go.ChangeSpec) : _root_.Go.OpenSpec := { _root_.Go.OpenSpec.ofChange s with cond := some uptoSmall }

/-- 'tapewrightlaw13.AdjointMakes', WHERE WHAT IT READS IS OF BULK AT MOST 1048576: true; the input reads as it did. -/
def adjointMakesUptoRow : OpenClaim := { program := "ytphnnbfgiomaoaagreatdoor", sum := "fa4bce761d613b1f426efb7031cc56b6be076b75a7dfd0dfcdd4b9a3022bf247", func := "tapewright/tapewrightlaw13.AdjointMakes", spec := "adjointMakes", inPlace := ["internal/bytealg.IndexByteString", "internal/bytealg.IndexString", "internal/reflectlite.TypeOf", "internal/reflectlite.ValueOf", "(internal/reflectlite.Value).Type", "(internal/reflectlite.Value).IsNil", "(internal/reflectlite.Value).Elem", "(internal/reflectlite.Value).Set"], unfollowed := true, recurses := true, named := ["unicode/utf8.first", "unicode/utf8.acceptRanges", "tapewright/rat.errForm", "internal/bytealg.MaxLen", "tapewright/rat.errZero", "internal/strconv.uint64pow10", "math/bits.deBruijn32tab", "math/bits.deBruijn64tab", "errors.errorType"], apart := false, laid := [("math/bits.deBruijn32tab", laid_math_bits_deBruijn32tab), ("math/bits.deBruijn64tab", laid_math_bits_deBruijn64tab), ("internal/strconv.uint64pow10", laid_internal_strconv_uint64pow10), ("unicode/utf8.acceptRanges", laid_unicode_utf8_acceptRanges), ("errors.errorType", laid_errors_errorType), ("tapewright/rat.errForm", laid_tapewright_rat_errForm), ("tapewright/rat.errZero", laid_tapewright_rat_errZero), ("unicode/utf8.first", laid_unicode_utf8_first)], narrowed := true }
def AdjointMakesUptoSaid : Prop := adjointMakesUptoRow.holds Tryz.pinned (OpenSpec.upto adjointMakesSpec)

/-- 'tapewrightlaw13.AdjointSlopes', WHERE WHAT IT READS IS OF BULK AT MOST 1048576: true; the input reads as it did. -/
def adjointSlopesUptoRow : OpenClaim := { program := "ytphnnbfgiomaoaagreatdoor", sum := "fa4bce761d613b1f426efb7031cc56b6be076b75a7dfd0dfcdd4b9a3022bf247", func := "tapewright/tapewrightlaw13.AdjointSlopes", spec := "adjointSlopes", inPlace := ["internal/bytealg.IndexByteString", "internal/bytealg.IndexString", "internal/reflectlite.TypeOf", "internal/reflectlite.ValueOf", "(internal/reflectlite.Value).Type", "(internal/reflectlite.Value).IsNil", "(internal/reflectlite.Value).Elem", "(internal/reflectlite.Value).Set"], unfollowed := true, recurses := true, named := ["unicode/utf8.first", "unicode/utf8.acceptRanges", "tapewright/rat.errForm", "internal/bytealg.MaxLen", "tapewright/rat.errZero", "internal/strconv.uint64pow10", "math/bits.deBruijn32tab", "math/bits.deBruijn64tab", "errors.errorType"], apart := false, laid := [("math/bits.deBruijn32tab", laid_math_bits_deBruijn32tab), ("math/bits.deBruijn64tab", laid_math_bits_deBruijn64tab), ("internal/strconv.uint64pow10", laid_internal_strconv_uint64pow10), ("unicode/utf8.acceptRanges", laid_unicode_utf8_acceptRanges), ("errors.errorType", laid_errors_errorType), ("tapewright/rat.errForm", laid_tapewright_rat_errForm), ("tapewright/rat.errZero", laid_tapewright_rat_errZero), ("unicode/utf8.first", laid_unicode_utf8_first)], narrowed := true }
def AdjointSlopesUptoSaid : Prop := adjointSlopesUptoRow.holds Tryz.pinned (OpenSpec.upto adjointSlopesSpec)

/-- 'tapewrightlaw13.AdjointTimes', WHERE WHAT IT READS IS OF BULK AT MOST 1048576: true; the input reads as it did. -/
def adjointTimesUptoRow : OpenClaim := { program := "ytphnnbfgiomaoaagreatdoor", sum := "fa4bce761d613b1f426efb7031cc56b6be076b75a7dfd0dfcdd4b9a3022bf247", func := "tapewright/tapewrightlaw13.AdjointTimes", spec := "adjointTimes", inPlace := ["internal/bytealg.IndexByteString", "internal/bytealg.IndexString", "internal/reflectlite.TypeOf", "internal/reflectlite.ValueOf", "(internal/reflectlite.Value).Type", "(internal/reflectlite.Value).IsNil", "(internal/reflectlite.Value).Elem", "(internal/reflectlite.Value).Set"], unfollowed := true, recurses := true, named := ["unicode/utf8.first", "unicode/utf8.acceptRanges", "tapewright/rat.errForm", "internal/bytealg.MaxLen", "tapewright/rat.errZero", "internal/strconv.uint64pow10", "math/bits.deBruijn32tab", "math/bits.deBruijn64tab", "errors.errorType"], apart := false, laid := [("math/bits.deBruijn32tab", laid_math_bits_deBruijn32tab), ("math/bits.deBruijn64tab", laid_math_bits_deBruijn64tab), ("internal/strconv.uint64pow10", laid_internal_strconv_uint64pow10), ("unicode/utf8.acceptRanges", laid_unicode_utf8_acceptRanges), ("errors.errorType", laid_errors_errorType), ("tapewright/rat.errForm", laid_tapewright_rat_errForm), ("tapewright/rat.errZero", laid_tapewright_rat_errZero), ("unicode/utf8.first", laid_unicode_utf8_first)], narrowed := true }
def AdjointTimesUptoSaid : Prop := adjointTimesUptoRow.holds Tryz.pinned (OpenSpec.upto adjointTimesSpec)

/-- 'tapewrightlaw13.AdjointConst', WHERE WHAT IT READS IS OF BULK AT MOST 1048576: true; the input reads as it did. -/
def adjointConstUptoRow : OpenClaim := { program := "ytphnnbfgiomaoaagreatdoor", sum := "fa4bce761d613b1f426efb7031cc56b6be076b75a7dfd0dfcdd4b9a3022bf247", func := "tapewright/tapewrightlaw13.AdjointConst", spec := "adjointConst", inPlace := ["internal/bytealg.IndexByteString", "internal/bytealg.IndexString", "internal/reflectlite.TypeOf", "internal/reflectlite.ValueOf", "(internal/reflectlite.Value).Type", "(internal/reflectlite.Value).IsNil", "(internal/reflectlite.Value).Elem", "(internal/reflectlite.Value).Set"], unfollowed := true, recurses := true, named := ["unicode/utf8.first", "unicode/utf8.acceptRanges", "tapewright/rat.errForm", "internal/bytealg.MaxLen", "tapewright/rat.errZero", "internal/strconv.uint64pow10", "math/bits.deBruijn32tab", "math/bits.deBruijn64tab", "errors.errorType"], apart := false, laid := [("math/bits.deBruijn32tab", laid_math_bits_deBruijn32tab), ("math/bits.deBruijn64tab", laid_math_bits_deBruijn64tab), ("internal/strconv.uint64pow10", laid_internal_strconv_uint64pow10), ("unicode/utf8.acceptRanges", laid_unicode_utf8_acceptRanges), ("errors.errorType", laid_errors_errorType), ("tapewright/rat.errForm", laid_tapewright_rat_errForm), ("tapewright/rat.errZero", laid_tapewright_rat_errZero), ("unicode/utf8.first", laid_unicode_utf8_first)], narrowed := true }
def AdjointConstUptoSaid : Prop := adjointConstUptoRow.holds Tryz.pinned (OpenSpec.upto adjointConstSpec)

/-- 'tapewrightlaw13.AdjointLine', WHERE WHAT IT READS IS OF BULK AT MOST 1048576: true; the input reads as it did. -/
def adjointLineUptoRow : OpenClaim := { program := "ytphnnbfgiomaoaagreatdoor", sum := "fa4bce761d613b1f426efb7031cc56b6be076b75a7dfd0dfcdd4b9a3022bf247", func := "tapewright/tapewrightlaw13.AdjointLine", spec := "adjointLine", inPlace := ["internal/bytealg.IndexByteString", "internal/bytealg.IndexString", "internal/reflectlite.TypeOf", "internal/reflectlite.ValueOf", "(internal/reflectlite.Value).Type", "(internal/reflectlite.Value).IsNil", "(internal/reflectlite.Value).Elem", "(internal/reflectlite.Value).Set"], unfollowed := true, recurses := true, named := ["unicode/utf8.first", "unicode/utf8.acceptRanges", "tapewright/rat.errForm", "internal/bytealg.MaxLen", "tapewright/rat.errZero", "internal/strconv.uint64pow10", "math/bits.deBruijn32tab", "math/bits.deBruijn64tab", "errors.errorType"], apart := false, laid := [("math/bits.deBruijn32tab", laid_math_bits_deBruijn32tab), ("math/bits.deBruijn64tab", laid_math_bits_deBruijn64tab), ("internal/strconv.uint64pow10", laid_internal_strconv_uint64pow10), ("unicode/utf8.acceptRanges", laid_unicode_utf8_acceptRanges), ("errors.errorType", laid_errors_errorType), ("tapewright/rat.errForm", laid_tapewright_rat_errForm), ("tapewright/rat.errZero", laid_tapewright_rat_errZero), ("unicode/utf8.first", laid_unicode_utf8_first)], narrowed := true }
def AdjointLineUptoSaid : Prop := adjointLineUptoRow.holds Tryz.pinned (OpenSpec.upto adjointLineSpec)

/-- 'tapewrightlaw13.AdjointNone', WHERE WHAT IT READS IS OF BULK AT MOST 1048576: true; the input reads as it did. -/
def adjointNoneUptoRow : OpenClaim := { program := "ytphnnbfgiomaoaagreatdoor", sum := "fa4bce761d613b1f426efb7031cc56b6be076b75a7dfd0dfcdd4b9a3022bf247", func := "tapewright/tapewrightlaw13.AdjointNone", spec := "adjointNone", inPlace := ["internal/bytealg.IndexByteString", "internal/bytealg.IndexString", "internal/reflectlite.TypeOf", "internal/reflectlite.ValueOf", "(internal/reflectlite.Value).Type", "(internal/reflectlite.Value).IsNil", "(internal/reflectlite.Value).Elem", "(internal/reflectlite.Value).Set"], unfollowed := true, recurses := true, named := ["unicode/utf8.first", "unicode/utf8.acceptRanges", "tapewright/rat.errForm", "internal/bytealg.MaxLen", "tapewright/rat.errZero", "internal/strconv.uint64pow10", "math/bits.deBruijn32tab", "math/bits.deBruijn64tab", "errors.errorType"], apart := false, laid := [("math/bits.deBruijn32tab", laid_math_bits_deBruijn32tab), ("math/bits.deBruijn64tab", laid_math_bits_deBruijn64tab), ("internal/strconv.uint64pow10", laid_internal_strconv_uint64pow10), ("unicode/utf8.acceptRanges", laid_unicode_utf8_acceptRanges), ("errors.errorType", laid_errors_errorType), ("tapewright/rat.errForm", laid_tapewright_rat_errForm), ("tapewright/rat.errZero", laid_tapewright_rat_errZero), ("unicode/utf8.first", laid_unicode_utf8_first)], narrowed := true }
def AdjointNoneUptoSaid : Prop := adjointNoneUptoRow.holds Tryz.pinned (OpenSpec.upto adjointNoneSpec)

/-- 'tapewrightlaw15.CseKeeps', WHERE WHAT IT READS IS OF BULK AT MOST 1048576: true; the input reads as it did. -/
def cseKeepsUptoRow : OpenClaim := { program := "ytphnnbfgiomaoaagreatdoor", sum := "fa4bce761d613b1f426efb7031cc56b6be076b75a7dfd0dfcdd4b9a3022bf247", func := "tapewright/tapewrightlaw15.CseKeeps", spec := "cseKeeps", inPlace := ["internal/bytealg.IndexByteString", "internal/bytealg.IndexString", "internal/abi.NoEscape", "internal/bytealg.MakeNoZero", "internal/reflectlite.TypeOf", "internal/reflectlite.ValueOf", "(internal/reflectlite.Value).Type", "(internal/reflectlite.Value).IsNil", "(internal/reflectlite.Value).Elem", "(internal/reflectlite.Value).Set"], unfollowed := true, recurses := true, named := ["unicode/utf8.first", "unicode/utf8.acceptRanges", "tapewright/rat.errForm", "internal/bytealg.MaxLen", "tapewright/rat.errZero", "internal/strconv.uint64pow10", "math/bits.deBruijn32tab", "math/bits.deBruijn64tab", "errors.errorType"], apart := false, laid := [("math/bits.deBruijn32tab", laid_math_bits_deBruijn32tab), ("math/bits.deBruijn64tab", laid_math_bits_deBruijn64tab), ("internal/strconv.uint64pow10", laid_internal_strconv_uint64pow10), ("unicode/utf8.acceptRanges", laid_unicode_utf8_acceptRanges), ("errors.errorType", laid_errors_errorType), ("tapewright/rat.errForm", laid_tapewright_rat_errForm), ("tapewright/rat.errZero", laid_tapewright_rat_errZero), ("unicode/utf8.first", laid_unicode_utf8_first)], narrowed := true }
def CseKeepsUptoSaid : Prop := cseKeepsUptoRow.holds Tryz.pinned (OpenSpec.upto cseKeepsSpec)

/-- 'tapewrightlaw18.ExecTights', WHERE WHAT IT READS IS OF BULK AT MOST 1048576: true; the input reads as it did. -/
def execTightsUptoRow : OpenClaim := { program := "ytphnnbfgiomaoaagreatdoor", sum := "fa4bce761d613b1f426efb7031cc56b6be076b75a7dfd0dfcdd4b9a3022bf247", func := "tapewright/tapewrightlaw18.ExecTights", spec := "execTights", inPlace := ["internal/bytealg.IndexByteString", "internal/bytealg.IndexString", "internal/reflectlite.TypeOf", "internal/reflectlite.ValueOf", "(internal/reflectlite.Value).Type", "(internal/reflectlite.Value).IsNil", "(internal/reflectlite.Value).Elem", "(internal/reflectlite.Value).Set", "internal/abi.NoEscape", "internal/bytealg.MakeNoZero"], unfollowed := true, recurses := true, named := ["unicode/utf8.first", "unicode/utf8.acceptRanges", "tapewright/rat.errForm", "internal/bytealg.MaxLen", "tapewright/rat.errZero", "errors.errorType", "internal/strconv.uint64pow10", "math/bits.deBruijn32tab", "math/bits.deBruijn64tab"], apart := false, laid := [("math/bits.deBruijn32tab", laid_math_bits_deBruijn32tab), ("math/bits.deBruijn64tab", laid_math_bits_deBruijn64tab), ("internal/strconv.uint64pow10", laid_internal_strconv_uint64pow10), ("unicode/utf8.acceptRanges", laid_unicode_utf8_acceptRanges), ("errors.errorType", laid_errors_errorType), ("tapewright/rat.errForm", laid_tapewright_rat_errForm), ("tapewright/rat.errZero", laid_tapewright_rat_errZero), ("unicode/utf8.first", laid_unicode_utf8_first)], narrowed := true }
def ExecTightsUptoSaid : Prop := execTightsUptoRow.holds Tryz.pinned (OpenSpec.upto execTightsSpec)

/-- 'tapewrightlaw18.ExecTwice', WHERE WHAT IT READS IS OF BULK AT MOST 1048576: true; the input reads as it did. -/
def execTwiceUptoRow : OpenClaim := { program := "ytphnnbfgiomaoaagreatdoor", sum := "fa4bce761d613b1f426efb7031cc56b6be076b75a7dfd0dfcdd4b9a3022bf247", func := "tapewright/tapewrightlaw18.ExecTwice", spec := "execTwice", inPlace := ["internal/bytealg.IndexByteString", "internal/bytealg.IndexString", "internal/reflectlite.TypeOf", "internal/reflectlite.ValueOf", "(internal/reflectlite.Value).Type", "(internal/reflectlite.Value).IsNil", "(internal/reflectlite.Value).Elem", "(internal/reflectlite.Value).Set", "internal/abi.NoEscape", "internal/bytealg.MakeNoZero"], unfollowed := true, recurses := true, named := ["unicode/utf8.first", "unicode/utf8.acceptRanges", "tapewright/rat.errForm", "internal/bytealg.MaxLen", "tapewright/rat.errZero", "errors.errorType", "internal/strconv.uint64pow10", "math/bits.deBruijn32tab", "math/bits.deBruijn64tab"], apart := false, laid := [("math/bits.deBruijn32tab", laid_math_bits_deBruijn32tab), ("math/bits.deBruijn64tab", laid_math_bits_deBruijn64tab), ("internal/strconv.uint64pow10", laid_internal_strconv_uint64pow10), ("unicode/utf8.acceptRanges", laid_unicode_utf8_acceptRanges), ("errors.errorType", laid_errors_errorType), ("tapewright/rat.errForm", laid_tapewright_rat_errForm), ("tapewright/rat.errZero", laid_tapewright_rat_errZero), ("unicode/utf8.first", laid_unicode_utf8_first)], narrowed := true }
def ExecTwiceUptoSaid : Prop := execTwiceUptoRow.holds Tryz.pinned (OpenSpec.upto execTwiceSpec)

/-- 'tapewrightlaw18.ExecSmall', WHERE WHAT IT READS IS OF BULK AT MOST 1048576: true; the input reads as it did. -/
def execSmallUptoRow : OpenClaim := { program := "ytphnnbfgiomaoaagreatdoor", sum := "fa4bce761d613b1f426efb7031cc56b6be076b75a7dfd0dfcdd4b9a3022bf247", func := "tapewright/tapewrightlaw18.ExecSmall", spec := "execSmall", inPlace := ["internal/bytealg.IndexByteString", "internal/bytealg.IndexString", "internal/reflectlite.TypeOf", "internal/reflectlite.ValueOf", "(internal/reflectlite.Value).Type", "(internal/reflectlite.Value).IsNil", "(internal/reflectlite.Value).Elem", "(internal/reflectlite.Value).Set", "internal/abi.NoEscape", "internal/bytealg.MakeNoZero"], unfollowed := true, recurses := true, named := ["unicode/utf8.first", "unicode/utf8.acceptRanges", "tapewright/rat.errForm", "internal/bytealg.MaxLen", "tapewright/rat.errZero", "errors.errorType", "internal/strconv.uint64pow10", "math/bits.deBruijn32tab", "math/bits.deBruijn64tab"], apart := false, laid := [("math/bits.deBruijn32tab", laid_math_bits_deBruijn32tab), ("math/bits.deBruijn64tab", laid_math_bits_deBruijn64tab), ("internal/strconv.uint64pow10", laid_internal_strconv_uint64pow10), ("unicode/utf8.acceptRanges", laid_unicode_utf8_acceptRanges), ("errors.errorType", laid_errors_errorType), ("tapewright/rat.errForm", laid_tapewright_rat_errForm), ("tapewright/rat.errZero", laid_tapewright_rat_errZero), ("unicode/utf8.first", laid_unicode_utf8_first)], narrowed := true }
def ExecSmallUptoSaid : Prop := execSmallUptoRow.holds Tryz.pinned (OpenSpec.upto execSmallSpec)

/-- 'tapewrightlaw18.ExecKeeps', WHERE WHAT IT READS IS OF BULK AT MOST 1048576: true; the input reads as it did. -/
def execKeepsUptoRow : OpenClaim := { program := "ytphnnbfgiomaoaagreatdoor", sum := "fa4bce761d613b1f426efb7031cc56b6be076b75a7dfd0dfcdd4b9a3022bf247", func := "tapewright/tapewrightlaw18.ExecKeeps", spec := "execKeeps", inPlace := ["internal/bytealg.IndexByteString", "internal/bytealg.IndexString", "internal/reflectlite.TypeOf", "internal/reflectlite.ValueOf", "(internal/reflectlite.Value).Type", "(internal/reflectlite.Value).IsNil", "(internal/reflectlite.Value).Elem", "(internal/reflectlite.Value).Set", "internal/abi.NoEscape", "internal/bytealg.MakeNoZero"], unfollowed := true, recurses := true, named := ["unicode/utf8.first", "unicode/utf8.acceptRanges", "tapewright/rat.errForm", "internal/bytealg.MaxLen", "tapewright/rat.errZero", "errors.errorType", "internal/strconv.uint64pow10", "math/bits.deBruijn32tab", "math/bits.deBruijn64tab"], apart := false, laid := [("math/bits.deBruijn32tab", laid_math_bits_deBruijn32tab), ("math/bits.deBruijn64tab", laid_math_bits_deBruijn64tab), ("internal/strconv.uint64pow10", laid_internal_strconv_uint64pow10), ("unicode/utf8.acceptRanges", laid_unicode_utf8_acceptRanges), ("errors.errorType", laid_errors_errorType), ("tapewright/rat.errForm", laid_tapewright_rat_errForm), ("tapewright/rat.errZero", laid_tapewright_rat_errZero), ("unicode/utf8.first", laid_unicode_utf8_first)], narrowed := true }
def ExecKeepsUptoSaid : Prop := execKeepsUptoRow.holds Tryz.pinned (OpenSpec.upto execKeepsSpec)

end Rows
end Go.Proofs.YtphnnbfgiomaoaaGreatDoor
