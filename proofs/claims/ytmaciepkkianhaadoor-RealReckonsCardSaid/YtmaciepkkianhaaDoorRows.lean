/-
  NARROWER THAN 'FOR EVERY INPUT', by the rows' own cells (each row's printed sentence says how): CellParses: laid · CellReads: laid · CellLies: laid · CellOne: laid · CellRanges: laid · CellKeys: laid · RealOrder: laid · RealKept: laid · RealReckons: laid · RealKeys: laid.
  DERIVED. THE GIVEN ROWS OF THIS SEAT. 10 by the template 'for every input the law returns true; each argument reads behind the call as it read before'; 0 by the template 'total and deterministic' (their statements: YtmaciepkkianhaaDoorTotals.lean).
  GIVEN WITH THE SEED: the statements are not yours to turn. If you find one false, say at which input.
  Laid BY PROGRAM, IN A SANDBOX (cutbox-rows.mjs): the forced cells as the released guide's own fill.sh prints them over the translation 8bcd7dc32c16f078… (all of the seat's roots in one cut). By AI agents, Wed Nov 11 2026. No macro, syntax, notation, axiom, sorry.
-/
import Derived.Test.YtmaciepkkianhaaDoorChecked
import GoSem.PinnedTables
import GoSem.Claim
import GoSem.ClaimJoined
import GoSem.ClaimMapViews
import Derived.JoinedTies
import Derived.KernelRfl
namespace Go.Proofs.YtmaciepkkianhaaDoor
/- THE CELL 'sum', in the pinned program and in every row, IS THE sha256 OF THE DUMP (.gsa) THAT YtmaciepkkianhaaDoorProg.lean LOADS. Nothing in Lean hashes anything: it is a label: what it is worth is what the hold of that sum in a sandbox is worth. -/
noncomputable def Tryd.pinned : Pinned := { name := "ytmaciepkkianhaadoor", sum := "8bcd7dc32c16f078a9396a3370ea3c0a1f1946ec7b5d82a511123c6e442d42f3", checked := Tryd.checked }
namespace Rows
def none {H : Type} : Left H := { results := [], args := [] }

/- WHAT THE LISTED PACKAGE-LEVEL VARIABLES READ AS WHEN THE CALL BEGINS. Each datum BY PROGRAM (the guide's laid-datum.mjs) off the statement by which the dump's own 'gosem.cut.vars' lays the variable. In a bare row this is a premise. The card (YtmaciepkkianhaaDoorCards.lean) ties it to the program's text. -/
def laid_unicode_utf8_acceptRanges {H : Type} : DataW H := .agg [.agg [.lit (.int .u8 128), .lit (.int .u8 191)], .agg [.lit (.int .u8 160), .lit (.int .u8 191)], .agg [.lit (.int .u8 128), .lit (.int .u8 159)], .agg [.lit (.int .u8 144), .lit (.int .u8 191)], .agg [.lit (.int .u8 128), .lit (.int .u8 143)], .agg [.lit (.int .u8 0), .lit (.int .u8 0)], .agg [.lit (.int .u8 0), .lit (.int .u8 0)], .agg [.lit (.int .u8 0), .lit (.int .u8 0)], .agg [.lit (.int .u8 0), .lit (.int .u8 0)], .agg [.lit (.int .u8 0), .lit (.int .u8 0)], .agg [.lit (.int .u8 0), .lit (.int .u8 0)], .agg [.lit (.int .u8 0), .lit (.int .u8 0)], .agg [.lit (.int .u8 0), .lit (.int .u8 0)], .agg [.lit (.int .u8 0), .lit (.int .u8 0)], .agg [.lit (.int .u8 0), .lit (.int .u8 0)], .agg [.lit (.int .u8 0), .lit (.int .u8 0)]]
/-- One of Go's own tables, pinned by name: the form's constant. -/
def laid_unicode_utf8_first : DataW Unit := Go.Pinned.utf8First
def laid_math_bits_deBruijn32tab {H : Type} : DataW H := .agg [.lit (.int .u8 0), .lit (.int .u8 1), .lit (.int .u8 28), .lit (.int .u8 2), .lit (.int .u8 29), .lit (.int .u8 14), .lit (.int .u8 24), .lit (.int .u8 3), .lit (.int .u8 30), .lit (.int .u8 22), .lit (.int .u8 20), .lit (.int .u8 15), .lit (.int .u8 25), .lit (.int .u8 17), .lit (.int .u8 4), .lit (.int .u8 8), .lit (.int .u8 31), .lit (.int .u8 27), .lit (.int .u8 13), .lit (.int .u8 23), .lit (.int .u8 21), .lit (.int .u8 19), .lit (.int .u8 16), .lit (.int .u8 7), .lit (.int .u8 26), .lit (.int .u8 12), .lit (.int .u8 18), .lit (.int .u8 6), .lit (.int .u8 11), .lit (.int .u8 5), .lit (.int .u8 10), .lit (.int .u8 9)]
def laid_math_bits_deBruijn64tab {H : Type} : DataW H := .agg [.lit (.int .u8 0), .lit (.int .u8 1), .lit (.int .u8 56), .lit (.int .u8 2), .lit (.int .u8 57), .lit (.int .u8 49), .lit (.int .u8 28), .lit (.int .u8 3), .lit (.int .u8 61), .lit (.int .u8 58), .lit (.int .u8 42), .lit (.int .u8 50), .lit (.int .u8 38), .lit (.int .u8 29), .lit (.int .u8 17), .lit (.int .u8 4), .lit (.int .u8 62), .lit (.int .u8 47), .lit (.int .u8 59), .lit (.int .u8 36), .lit (.int .u8 45), .lit (.int .u8 43), .lit (.int .u8 51), .lit (.int .u8 22), .lit (.int .u8 53), .lit (.int .u8 39), .lit (.int .u8 33), .lit (.int .u8 30), .lit (.int .u8 24), .lit (.int .u8 18), .lit (.int .u8 12), .lit (.int .u8 5), .lit (.int .u8 63), .lit (.int .u8 55), .lit (.int .u8 48), .lit (.int .u8 27), .lit (.int .u8 60), .lit (.int .u8 41), .lit (.int .u8 37), .lit (.int .u8 16), .lit (.int .u8 46), .lit (.int .u8 35), .lit (.int .u8 44), .lit (.int .u8 21), .lit (.int .u8 52), .lit (.int .u8 32), .lit (.int .u8 23), .lit (.int .u8 11), .lit (.int .u8 54), .lit (.int .u8 26), .lit (.int .u8 40), .lit (.int .u8 15), .lit (.int .u8 34), .lit (.int .u8 20), .lit (.int .u8 31), .lit (.int .u8 10), .lit (.int .u8 25), .lit (.int .u8 14), .lit (.int .u8 19), .lit (.int .u8 9), .lit (.int .u8 13), .lit (.int .u8 8), .lit (.int .u8 7), .lit (.int .u8 6)]
def laid_internal_strconv_optimize {H : Type} : DataW H := .lit (.bool true)
def laid_internal_strconv_uint64pow10 {H : Type} : DataW H := .agg [.lit (.int .u64 1), .lit (.int .u64 10), .lit (.int .u64 100), .lit (.int .u64 1000), .lit (.int .u64 10000), .lit (.int .u64 100000), .lit (.int .u64 1000000), .lit (.int .u64 10000000), .lit (.int .u64 100000000), .lit (.int .u64 1000000000), .lit (.int .u64 10000000000), .lit (.int .u64 100000000000), .lit (.int .u64 1000000000000), .lit (.int .u64 10000000000000), .lit (.int .u64 100000000000000), .lit (.int .u64 1000000000000000), .lit (.int .u64 10000000000000000), .lit (.int .u64 100000000000000000), .lit (.int .u64 1000000000000000000), .lit (.int .u64 10000000000000000000)]
/-- One of Go's own tables, pinned by name: the form's constant. -/
def laid_internal_strconv_leftcheats : DataW Unit := Go.Pinned.leftcheats
/-- One of Go's own tables, pinned by name: the form's constant. -/
def laid_internal_strconv_pow10Tab : DataW Unit := Go.Pinned.pow10Tab

/-- 'mortmainlaw07.CellParses': WHATEVER THE INPUT: true; the input reads as it did. -/
def cellParsesSpec : ChangeSpec := { name := "cellParses", fn := fun _ => fun
  | [d1, d2, d3, d4, d5] => { results := [.lit (.bool true)], args := [d1, d2, d3, d4, d5] }
  | _ => none }
def cellParsesRow : OpenClaim := { program := "ytmaciepkkianhaadoor", sum := "8bcd7dc32c16f078a9396a3370ea3c0a1f1946ec7b5d82a511123c6e442d42f3", func := "mortmain/mortmainlaw07.CellParses", spec := "cellParses", inPlace := ["math.Float64frombits", "math.Float64bits", "internal/bytealg.CountString", "internal/bytealg.IndexByteString", "internal/bytealg.IndexString", "internal/abi.NoEscape", "internal/bytealg.MakeNoZero"], named := ["internal/bytealg.MaxLen", "unicode/utf8.first", "unicode/utf8.acceptRanges"], apart := false, laid := [("unicode/utf8.acceptRanges", laid_unicode_utf8_acceptRanges), ("unicode/utf8.first", laid_unicode_utf8_first)] }
def CellParsesSaid : Prop := cellParsesRow.holds Tryd.pinned (OpenSpec.ofChange cellParsesSpec)

/-- ITS FALSE NEIGHBOUR: 'it returns false'. Refute it at one input. -/
def cellParsesWrong : ChangeSpec := { name := "cellParses", fn := fun _ => fun
  | [d1, d2, d3, d4, d5] => { results := [.lit (.bool false)], args := [d1, d2, d3, d4, d5] }
  | _ => none }
def CellParsesWrongFalsely : Prop := cellParsesRow.holds Tryd.pinned (OpenSpec.ofChange cellParsesWrong)

/-- 'mortmainlaw07.CellReads': WHATEVER THE INPUT: true; the input reads as it did. -/
def cellReadsSpec : ChangeSpec := { name := "cellReads", fn := fun _ => fun
  | [d] => { results := [.lit (.bool true)], args := [d] }
  | _ => none }
def cellReadsRow : OpenClaim := { program := "ytmaciepkkianhaadoor", sum := "8bcd7dc32c16f078a9396a3370ea3c0a1f1946ec7b5d82a511123c6e442d42f3", func := "mortmain/mortmainlaw07.CellReads", spec := "cellReads", inPlace := ["math.Float64frombits", "math.Float64bits", "internal/bytealg.CountString", "internal/bytealg.IndexByteString", "internal/bytealg.IndexString", "internal/abi.NoEscape", "internal/bytealg.MakeNoZero"], named := ["internal/bytealg.MaxLen", "unicode/utf8.first", "unicode/utf8.acceptRanges"], apart := false, laid := [("unicode/utf8.acceptRanges", laid_unicode_utf8_acceptRanges), ("unicode/utf8.first", laid_unicode_utf8_first)] }
def CellReadsSaid : Prop := cellReadsRow.holds Tryd.pinned (OpenSpec.ofChange cellReadsSpec)

/-- ITS FALSE NEIGHBOUR: 'it returns false'. Refute it at one input. -/
def cellReadsWrong : ChangeSpec := { name := "cellReads", fn := fun _ => fun
  | [d] => { results := [.lit (.bool false)], args := [d] }
  | _ => none }
def CellReadsWrongFalsely : Prop := cellReadsRow.holds Tryd.pinned (OpenSpec.ofChange cellReadsWrong)

/-- 'mortmainlaw07.CellLies': WHATEVER THE INPUT: true; the input reads as it did. -/
def cellLiesSpec : ChangeSpec := { name := "cellLies", fn := fun _ => fun
  | [d1, d2, d3, d4, d5, d6] => { results := [.lit (.bool true)], args := [d1, d2, d3, d4, d5, d6] }
  | _ => none }
def cellLiesRow : OpenClaim := { program := "ytmaciepkkianhaadoor", sum := "8bcd7dc32c16f078a9396a3370ea3c0a1f1946ec7b5d82a511123c6e442d42f3", func := "mortmain/mortmainlaw07.CellLies", spec := "cellLies", inPlace := ["math.Float64frombits", "math.Float64bits", "internal/bytealg.CountString", "internal/bytealg.IndexByteString", "internal/bytealg.IndexString", "internal/abi.NoEscape", "internal/bytealg.MakeNoZero"], named := ["internal/bytealg.MaxLen", "unicode/utf8.first", "unicode/utf8.acceptRanges"], apart := false, laid := [("unicode/utf8.acceptRanges", laid_unicode_utf8_acceptRanges), ("unicode/utf8.first", laid_unicode_utf8_first)] }
def CellLiesSaid : Prop := cellLiesRow.holds Tryd.pinned (OpenSpec.ofChange cellLiesSpec)

/-- ITS FALSE NEIGHBOUR: 'it returns false'. Refute it at one input. -/
def cellLiesWrong : ChangeSpec := { name := "cellLies", fn := fun _ => fun
  | [d1, d2, d3, d4, d5, d6] => { results := [.lit (.bool false)], args := [d1, d2, d3, d4, d5, d6] }
  | _ => none }
def CellLiesWrongFalsely : Prop := cellLiesRow.holds Tryd.pinned (OpenSpec.ofChange cellLiesWrong)

/-- 'mortmainlaw07.CellOne': WHATEVER THE INPUT: true; the input reads as it did. -/
def cellOneSpec : ChangeSpec := { name := "cellOne", fn := fun _ => fun
  | [d1, d2, d3, d4, d5] => { results := [.lit (.bool true)], args := [d1, d2, d3, d4, d5] }
  | _ => none }
def cellOneRow : OpenClaim := { program := "ytmaciepkkianhaadoor", sum := "8bcd7dc32c16f078a9396a3370ea3c0a1f1946ec7b5d82a511123c6e442d42f3", func := "mortmain/mortmainlaw07.CellOne", spec := "cellOne", inPlace := ["math.Float64frombits", "math.Float64bits", "internal/bytealg.CountString", "internal/bytealg.IndexByteString", "internal/bytealg.IndexString", "internal/abi.NoEscape", "internal/bytealg.MakeNoZero"], named := ["internal/bytealg.MaxLen", "unicode/utf8.first", "unicode/utf8.acceptRanges"], apart := false, laid := [("unicode/utf8.acceptRanges", laid_unicode_utf8_acceptRanges), ("unicode/utf8.first", laid_unicode_utf8_first)] }
def CellOneSaid : Prop := cellOneRow.holds Tryd.pinned (OpenSpec.ofChange cellOneSpec)

/-- ITS FALSE NEIGHBOUR: 'it returns false'. Refute it at one input. -/
def cellOneWrong : ChangeSpec := { name := "cellOne", fn := fun _ => fun
  | [d1, d2, d3, d4, d5] => { results := [.lit (.bool false)], args := [d1, d2, d3, d4, d5] }
  | _ => none }
def CellOneWrongFalsely : Prop := cellOneRow.holds Tryd.pinned (OpenSpec.ofChange cellOneWrong)

/-- 'mortmainlaw07.CellRanges': WHATEVER THE INPUT: true; the input reads as it did. -/
def cellRangesSpec : ChangeSpec := { name := "cellRanges", fn := fun _ => fun
  | [d1, d2, d3, d4, d5, d6] => { results := [.lit (.bool true)], args := [d1, d2, d3, d4, d5, d6] }
  | _ => none }
def cellRangesRow : OpenClaim := { program := "ytmaciepkkianhaadoor", sum := "8bcd7dc32c16f078a9396a3370ea3c0a1f1946ec7b5d82a511123c6e442d42f3", func := "mortmain/mortmainlaw07.CellRanges", spec := "cellRanges", inPlace := ["math.Float64frombits", "math.Float64bits", "internal/bytealg.CountString", "internal/bytealg.IndexByteString", "internal/bytealg.IndexString", "internal/abi.NoEscape", "internal/bytealg.MakeNoZero"], named := ["internal/bytealg.MaxLen", "unicode/utf8.first", "unicode/utf8.acceptRanges"], apart := false, laid := [("unicode/utf8.acceptRanges", laid_unicode_utf8_acceptRanges), ("unicode/utf8.first", laid_unicode_utf8_first)] }
def CellRangesSaid : Prop := cellRangesRow.holds Tryd.pinned (OpenSpec.ofChange cellRangesSpec)

/-- ITS FALSE NEIGHBOUR: 'it returns false'. Refute it at one input. -/
def cellRangesWrong : ChangeSpec := { name := "cellRanges", fn := fun _ => fun
  | [d1, d2, d3, d4, d5, d6] => { results := [.lit (.bool false)], args := [d1, d2, d3, d4, d5, d6] }
  | _ => none }
def CellRangesWrongFalsely : Prop := cellRangesRow.holds Tryd.pinned (OpenSpec.ofChange cellRangesWrong)

/-- 'mortmainlaw07.CellKeys': WHATEVER THE INPUT: true; the input reads as it did. -/
def cellKeysSpec : ChangeSpec := { name := "cellKeys", fn := fun _ => fun
  | [d1, d2, d3, d4, d5] => { results := [.lit (.bool true)], args := [d1, d2, d3, d4, d5] }
  | _ => none }
def cellKeysRow : OpenClaim := { program := "ytmaciepkkianhaadoor", sum := "8bcd7dc32c16f078a9396a3370ea3c0a1f1946ec7b5d82a511123c6e442d42f3", func := "mortmain/mortmainlaw07.CellKeys", spec := "cellKeys", inPlace := ["math.Float64frombits", "math.Float64bits", "internal/bytealg.CountString", "internal/bytealg.IndexByteString", "internal/bytealg.IndexString", "internal/abi.NoEscape", "internal/bytealg.MakeNoZero"], named := ["internal/bytealg.MaxLen", "unicode/utf8.first", "unicode/utf8.acceptRanges"], apart := false, laid := [("unicode/utf8.acceptRanges", laid_unicode_utf8_acceptRanges), ("unicode/utf8.first", laid_unicode_utf8_first)] }
def CellKeysSaid : Prop := cellKeysRow.holds Tryd.pinned (OpenSpec.ofChange cellKeysSpec)

/-- ITS FALSE NEIGHBOUR: 'it returns false'. Refute it at one input. -/
def cellKeysWrong : ChangeSpec := { name := "cellKeys", fn := fun _ => fun
  | [d1, d2, d3, d4, d5] => { results := [.lit (.bool false)], args := [d1, d2, d3, d4, d5] }
  | _ => none }
def CellKeysWrongFalsely : Prop := cellKeysRow.holds Tryd.pinned (OpenSpec.ofChange cellKeysWrong)

/-- 'mortmainlaw02.RealOrder': WHATEVER THE INPUT: true; the input reads as it did. -/
def realOrderSpec : ChangeSpec := { name := "realOrder", fn := fun _ => fun
  | [d1, d2, d3] => { results := [.lit (.bool true)], args := [d1, d2, d3] }
  | _ => none }
def realOrderRow : OpenClaim := { program := "ytmaciepkkianhaadoor", sum := "8bcd7dc32c16f078a9396a3370ea3c0a1f1946ec7b5d82a511123c6e442d42f3", func := "mortmain/mortmainlaw02.RealOrder", spec := "realOrder", inPlace := ["math.Float64bits", "math.Float64frombits", "internal/strconv.float32bits", "internal/strconv.float64bits"], named := ["internal/strconv.optimize", "internal/strconv.uint64pow10", "math/bits.deBruijn32tab", "math/bits.deBruijn64tab", "internal/strconv.pow10Tab", "internal/strconv.leftcheats"], apart := false, laid := [("math/bits.deBruijn32tab", laid_math_bits_deBruijn32tab), ("math/bits.deBruijn64tab", laid_math_bits_deBruijn64tab), ("internal/strconv.optimize", laid_internal_strconv_optimize), ("internal/strconv.uint64pow10", laid_internal_strconv_uint64pow10), ("internal/strconv.leftcheats", laid_internal_strconv_leftcheats), ("internal/strconv.pow10Tab", laid_internal_strconv_pow10Tab)] }
def RealOrderSaid : Prop := realOrderRow.holds Tryd.pinned (OpenSpec.ofChange realOrderSpec)

/-- ITS FALSE NEIGHBOUR: 'it returns false'. Refute it at one input. -/
def realOrderWrong : ChangeSpec := { name := "realOrder", fn := fun _ => fun
  | [d1, d2, d3] => { results := [.lit (.bool false)], args := [d1, d2, d3] }
  | _ => none }
def RealOrderWrongFalsely : Prop := realOrderRow.holds Tryd.pinned (OpenSpec.ofChange realOrderWrong)

/-- 'mortmainlaw02.RealKept': WHATEVER THE INPUT: true; the input reads as it did. -/
def realKeptSpec : ChangeSpec := { name := "realKept", fn := fun _ => fun
  | [d1, d2] => { results := [.lit (.bool true)], args := [d1, d2] }
  | _ => none }
def realKeptRow : OpenClaim := { program := "ytmaciepkkianhaadoor", sum := "8bcd7dc32c16f078a9396a3370ea3c0a1f1946ec7b5d82a511123c6e442d42f3", func := "mortmain/mortmainlaw02.RealKept", spec := "realKept", inPlace := ["math.Float64bits", "math.Float64frombits", "internal/strconv.float32bits", "internal/strconv.float64bits"], named := ["internal/strconv.optimize", "internal/strconv.uint64pow10", "math/bits.deBruijn32tab", "math/bits.deBruijn64tab", "internal/strconv.pow10Tab", "internal/strconv.leftcheats"], apart := false, laid := [("math/bits.deBruijn32tab", laid_math_bits_deBruijn32tab), ("math/bits.deBruijn64tab", laid_math_bits_deBruijn64tab), ("internal/strconv.optimize", laid_internal_strconv_optimize), ("internal/strconv.uint64pow10", laid_internal_strconv_uint64pow10), ("internal/strconv.leftcheats", laid_internal_strconv_leftcheats), ("internal/strconv.pow10Tab", laid_internal_strconv_pow10Tab)] }
def RealKeptSaid : Prop := realKeptRow.holds Tryd.pinned (OpenSpec.ofChange realKeptSpec)

/-- ITS FALSE NEIGHBOUR: 'it returns false'. Refute it at one input. -/
def realKeptWrong : ChangeSpec := { name := "realKept", fn := fun _ => fun
  | [d1, d2] => { results := [.lit (.bool false)], args := [d1, d2] }
  | _ => none }
def RealKeptWrongFalsely : Prop := realKeptRow.holds Tryd.pinned (OpenSpec.ofChange realKeptWrong)

/-- 'mortmainlaw02.RealReckons': WHATEVER THE INPUT: true; the input reads as it did. -/
def realReckonsSpec : ChangeSpec := { name := "realReckons", fn := fun _ => fun
  | [d1, d2] => { results := [.lit (.bool true)], args := [d1, d2] }
  | _ => none }
def realReckonsRow : OpenClaim := { program := "ytmaciepkkianhaadoor", sum := "8bcd7dc32c16f078a9396a3370ea3c0a1f1946ec7b5d82a511123c6e442d42f3", func := "mortmain/mortmainlaw02.RealReckons", spec := "realReckons", inPlace := ["math.Float64bits", "math.Float64frombits", "internal/strconv.float32bits", "internal/strconv.float64bits"], named := ["internal/strconv.optimize", "internal/strconv.uint64pow10", "math/bits.deBruijn32tab", "math/bits.deBruijn64tab", "internal/strconv.pow10Tab", "internal/strconv.leftcheats"], apart := false, laid := [("math/bits.deBruijn32tab", laid_math_bits_deBruijn32tab), ("math/bits.deBruijn64tab", laid_math_bits_deBruijn64tab), ("internal/strconv.optimize", laid_internal_strconv_optimize), ("internal/strconv.uint64pow10", laid_internal_strconv_uint64pow10), ("internal/strconv.leftcheats", laid_internal_strconv_leftcheats), ("internal/strconv.pow10Tab", laid_internal_strconv_pow10Tab)] }
def RealReckonsSaid : Prop := realReckonsRow.holds Tryd.pinned (OpenSpec.ofChange realReckonsSpec)

/-- ITS FALSE NEIGHBOUR: 'it returns false'. Refute it at one input. -/
def realReckonsWrong : ChangeSpec := { name := "realReckons", fn := fun _ => fun
  | [d1, d2] => { results := [.lit (.bool false)], args := [d1, d2] }
  | _ => none }
def RealReckonsWrongFalsely : Prop := realReckonsRow.holds Tryd.pinned (OpenSpec.ofChange realReckonsWrong)

/-- 'mortmainlaw02.RealKeys': WHATEVER THE INPUT: true; the input reads as it did. -/
def realKeysSpec : ChangeSpec := { name := "realKeys", fn := fun _ => fun
  | [d1, d2] => { results := [.lit (.bool true)], args := [d1, d2] }
  | _ => none }
def realKeysRow : OpenClaim := { program := "ytmaciepkkianhaadoor", sum := "8bcd7dc32c16f078a9396a3370ea3c0a1f1946ec7b5d82a511123c6e442d42f3", func := "mortmain/mortmainlaw02.RealKeys", spec := "realKeys", inPlace := ["math.Float64bits", "math.Float64frombits", "internal/strconv.float32bits", "internal/strconv.float64bits"], named := ["internal/strconv.optimize", "internal/strconv.uint64pow10", "math/bits.deBruijn32tab", "math/bits.deBruijn64tab", "internal/strconv.pow10Tab", "internal/strconv.leftcheats"], apart := false, laid := [("math/bits.deBruijn32tab", laid_math_bits_deBruijn32tab), ("math/bits.deBruijn64tab", laid_math_bits_deBruijn64tab), ("internal/strconv.optimize", laid_internal_strconv_optimize), ("internal/strconv.uint64pow10", laid_internal_strconv_uint64pow10), ("internal/strconv.leftcheats", laid_internal_strconv_leftcheats), ("internal/strconv.pow10Tab", laid_internal_strconv_pow10Tab)] }
def RealKeysSaid : Prop := realKeysRow.holds Tryd.pinned (OpenSpec.ofChange realKeysSpec)

/-- ITS FALSE NEIGHBOUR: 'it returns false'. Refute it at one input. -/
def realKeysWrong : ChangeSpec := { name := "realKeys", fn := fun _ => fun
  | [d1, d2] => { results := [.lit (.bool false)], args := [d1, d2] }
  | _ => none }
def RealKeysWrongFalsely : Prop := realKeysRow.holds Tryd.pinned (OpenSpec.ofChange realKeysWrong)

/- THE SECOND FORM. 'bulk': how many values and letters a reading holds, each counted each time it is reached (what is shared counts as often as it is met; a slice's spare places count too). A statement '..UptoSaid' is the law's where the arguments, and the package variables that the reading takes, are together of bulk at most 1048576: NARROWER than '..Said'. Prove '..Said' where nothing that the law and all that it calls make is longer than what came in: it says more and counts as full. Else prove '..UptoSaid'. A law counts once. -/
mutual
def uptoBulk {H : Type} : DataW H → Nat
  | .lit (.string bytes) => bytes.length + 1
  | .lit _ => 1
  | .nil => 1
  | .ptr d => uptoBulk d + 1
  | .slice elems spare => uptoBulkAll elems + uptoBulkAll spare + 1
  | .agg parts => uptoBulkAll parts + 1
  | .iface _ d => uptoBulk d + 1
  | .map entries => uptoBulkEntries entries + 1
  | .held _ => 1
def uptoBulkAll {H : Type} : List (DataW H) → Nat
  | [] => 0
  | d :: r => uptoBulk d + uptoBulkAll r
def uptoBulkEntries {H : Type} : List (Lit × DataW H) → Nat
  | [] => 0
  | x :: r => uptoBulkEntry x + uptoBulkEntries r
def uptoBulkEntry {H : Type} : Lit × DataW H → Nat
  | (.string bytes, d) => bytes.length + uptoBulk d + 1
  | (_, d) => uptoBulk d + 1
 end
def uptoSmall : (H : Type) → List (DataW H) → Bool := fun _ ds => decide (uptoBulkAll ds ≤ 1048576)
def OpenSpec.upto (s : _root_.Go.ChangeSpec) : _root_.Go.OpenSpec := { _root_.Go.OpenSpec.ofChange s with cond := some uptoSmall }

/-- 'mortmainlaw07.CellParses', WHERE WHAT IT READS IS OF BULK AT MOST 1048576: true; the input reads as it did. -/
def cellParsesUptoRow : OpenClaim := { program := "ytmaciepkkianhaadoor", sum := "8bcd7dc32c16f078a9396a3370ea3c0a1f1946ec7b5d82a511123c6e442d42f3", func := "mortmain/mortmainlaw07.CellParses", spec := "cellParses", inPlace := ["math.Float64frombits", "math.Float64bits", "internal/bytealg.CountString", "internal/bytealg.IndexByteString", "internal/bytealg.IndexString", "internal/abi.NoEscape", "internal/bytealg.MakeNoZero"], named := ["internal/bytealg.MaxLen", "unicode/utf8.first", "unicode/utf8.acceptRanges"], apart := false, laid := [("unicode/utf8.acceptRanges", laid_unicode_utf8_acceptRanges), ("unicode/utf8.first", laid_unicode_utf8_first)], narrowed := true }
def CellParsesUptoSaid : Prop := cellParsesUptoRow.holds Tryd.pinned (OpenSpec.upto cellParsesSpec)

/-- 'mortmainlaw07.CellReads', WHERE WHAT IT READS IS OF BULK AT MOST 1048576: true; the input reads as it did. -/
def cellReadsUptoRow : OpenClaim := { program := "ytmaciepkkianhaadoor", sum := "8bcd7dc32c16f078a9396a3370ea3c0a1f1946ec7b5d82a511123c6e442d42f3", func := "mortmain/mortmainlaw07.CellReads", spec := "cellReads", inPlace := ["math.Float64frombits", "math.Float64bits", "internal/bytealg.CountString", "internal/bytealg.IndexByteString", "internal/bytealg.IndexString", "internal/abi.NoEscape", "internal/bytealg.MakeNoZero"], named := ["internal/bytealg.MaxLen", "unicode/utf8.first", "unicode/utf8.acceptRanges"], apart := false, laid := [("unicode/utf8.acceptRanges", laid_unicode_utf8_acceptRanges), ("unicode/utf8.first", laid_unicode_utf8_first)], narrowed := true }
def CellReadsUptoSaid : Prop := cellReadsUptoRow.holds Tryd.pinned (OpenSpec.upto cellReadsSpec)

/-- 'mortmainlaw07.CellLies', WHERE WHAT IT READS IS OF BULK AT MOST 1048576: true; the input reads as it did. -/
def cellLiesUptoRow : OpenClaim := { program := "ytmaciepkkianhaadoor", sum := "8bcd7dc32c16f078a9396a3370ea3c0a1f1946ec7b5d82a511123c6e442d42f3", func := "mortmain/mortmainlaw07.CellLies", spec := "cellLies", inPlace := ["math.Float64frombits", "math.Float64bits", "internal/bytealg.CountString", "internal/bytealg.IndexByteString", "internal/bytealg.IndexString", "internal/abi.NoEscape", "internal/bytealg.MakeNoZero"], named := ["internal/bytealg.MaxLen", "unicode/utf8.first", "unicode/utf8.acceptRanges"], apart := false, laid := [("unicode/utf8.acceptRanges", laid_unicode_utf8_acceptRanges), ("unicode/utf8.first", laid_unicode_utf8_first)], narrowed := true }
def CellLiesUptoSaid : Prop := cellLiesUptoRow.holds Tryd.pinned (OpenSpec.upto cellLiesSpec)

/-- 'mortmainlaw07.CellOne', WHERE WHAT IT READS IS OF BULK AT MOST 1048576: true; the input reads as it did. -/
def cellOneUptoRow : OpenClaim := { program := "ytmaciepkkianhaadoor", sum := "8bcd7dc32c16f078a9396a3370ea3c0a1f1946ec7b5d82a511123c6e442d42f3", func := "mortmain/mortmainlaw07.CellOne", spec := "cellOne", inPlace := ["math.Float64frombits", "math.Float64bits", "internal/bytealg.CountString", "internal/bytealg.IndexByteString", "internal/bytealg.IndexString", "internal/abi.NoEscape", "internal/bytealg.MakeNoZero"], named := ["internal/bytealg.MaxLen", "unicode/utf8.first", "unicode/utf8.acceptRanges"], apart := false, laid := [("unicode/utf8.acceptRanges", laid_unicode_utf8_acceptRanges), ("unicode/utf8.first", laid_unicode_utf8_first)], narrowed := true }
def CellOneUptoSaid : Prop := cellOneUptoRow.holds Tryd.pinned (OpenSpec.upto cellOneSpec)

/-- 'mortmainlaw07.CellRanges', WHERE WHAT IT READS IS OF BULK AT MOST 1048576: true; the input reads as it did. -/
def cellRangesUptoRow : OpenClaim := { program := "ytmaciepkkianhaadoor", sum := "8bcd7dc32c16f078a9396a3370ea3c0a1f1946ec7b5d82a511123c6e442d42f3", func := "mortmain/mortmainlaw07.CellRanges", spec := "cellRanges", inPlace := ["math.Float64frombits", "math.Float64bits", "internal/bytealg.CountString", "internal/bytealg.IndexByteString", "internal/bytealg.IndexString", "internal/abi.NoEscape", "internal/bytealg.MakeNoZero"], named := ["internal/bytealg.MaxLen", "unicode/utf8.first", "unicode/utf8.acceptRanges"], apart := false, laid := [("unicode/utf8.acceptRanges", laid_unicode_utf8_acceptRanges), ("unicode/utf8.first", laid_unicode_utf8_first)], narrowed := true }
def CellRangesUptoSaid : Prop := cellRangesUptoRow.holds Tryd.pinned (OpenSpec.upto cellRangesSpec)

/-- 'mortmainlaw07.CellKeys', WHERE WHAT IT READS IS OF BULK AT MOST 1048576: true; the input reads as it did. -/
def cellKeysUptoRow : OpenClaim := { program := "ytmaciepkkianhaadoor", sum := "8bcd7dc32c16f078a9396a3370ea3c0a1f1946ec7b5d82a511123c6e442d42f3", func := "mortmain/mortmainlaw07.CellKeys", spec := "cellKeys", inPlace := ["math.Float64frombits", "math.Float64bits", "internal/bytealg.CountString", "internal/bytealg.IndexByteString", "internal/bytealg.IndexString", "internal/abi.NoEscape", "internal/bytealg.MakeNoZero"], named := ["internal/bytealg.MaxLen", "unicode/utf8.first", "unicode/utf8.acceptRanges"], apart := false, laid := [("unicode/utf8.acceptRanges", laid_unicode_utf8_acceptRanges), ("unicode/utf8.first", laid_unicode_utf8_first)], narrowed := true }
def CellKeysUptoSaid : Prop := cellKeysUptoRow.holds Tryd.pinned (OpenSpec.upto cellKeysSpec)

/-- 'mortmainlaw02.RealOrder', WHERE WHAT IT READS IS OF BULK AT MOST 1048576: true; the input reads as it did. -/
def realOrderUptoRow : OpenClaim := { program := "ytmaciepkkianhaadoor", sum := "8bcd7dc32c16f078a9396a3370ea3c0a1f1946ec7b5d82a511123c6e442d42f3", func := "mortmain/mortmainlaw02.RealOrder", spec := "realOrder", inPlace := ["math.Float64bits", "math.Float64frombits", "internal/strconv.float32bits", "internal/strconv.float64bits"], named := ["internal/strconv.optimize", "internal/strconv.uint64pow10", "math/bits.deBruijn32tab", "math/bits.deBruijn64tab", "internal/strconv.pow10Tab", "internal/strconv.leftcheats"], apart := false, laid := [("math/bits.deBruijn32tab", laid_math_bits_deBruijn32tab), ("math/bits.deBruijn64tab", laid_math_bits_deBruijn64tab), ("internal/strconv.optimize", laid_internal_strconv_optimize), ("internal/strconv.uint64pow10", laid_internal_strconv_uint64pow10), ("internal/strconv.leftcheats", laid_internal_strconv_leftcheats), ("internal/strconv.pow10Tab", laid_internal_strconv_pow10Tab)], narrowed := true }
def RealOrderUptoSaid : Prop := realOrderUptoRow.holds Tryd.pinned (OpenSpec.upto realOrderSpec)

/-- 'mortmainlaw02.RealKept', WHERE WHAT IT READS IS OF BULK AT MOST 1048576: true; the input reads as it did. -/
def realKeptUptoRow : OpenClaim := { program := "ytmaciepkkianhaadoor", sum := "8bcd7dc32c16f078a9396a3370ea3c0a1f1946ec7b5d82a511123c6e442d42f3", func := "mortmain/mortmainlaw02.RealKept", spec := "realKept", inPlace := ["math.Float64bits", "math.Float64frombits", "internal/strconv.float32bits", "internal/strconv.float64bits"], named := ["internal/strconv.optimize", "internal/strconv.uint64pow10", "math/bits.deBruijn32tab", "math/bits.deBruijn64tab", "internal/strconv.pow10Tab", "internal/strconv.leftcheats"], apart := false, laid := [("math/bits.deBruijn32tab", laid_math_bits_deBruijn32tab), ("math/bits.deBruijn64tab", laid_math_bits_deBruijn64tab), ("internal/strconv.optimize", laid_internal_strconv_optimize), ("internal/strconv.uint64pow10", laid_internal_strconv_uint64pow10), ("internal/strconv.leftcheats", laid_internal_strconv_leftcheats), ("internal/strconv.pow10Tab", laid_internal_strconv_pow10Tab)], narrowed := true }
def RealKeptUptoSaid : Prop := realKeptUptoRow.holds Tryd.pinned (OpenSpec.upto realKeptSpec)

/-- 'mortmainlaw02.RealReckons', WHERE WHAT IT READS IS OF BULK AT MOST 1048576: true; the input reads as it did. -/
def realReckonsUptoRow : OpenClaim := { program := "ytmaciepkkianhaadoor", sum := "8bcd7dc32c16f078a9396a3370ea3c0a1f1946ec7b5d82a511123c6e442d42f3", func := "mortmain/mortmainlaw02.RealReckons", spec := "realReckons", inPlace := ["math.Float64bits", "math.Float64frombits", "internal/strconv.float32bits", "internal/strconv.float64bits"], named := ["internal/strconv.optimize", "internal/strconv.uint64pow10", "math/bits.deBruijn32tab", "math/bits.deBruijn64tab", "internal/strconv.pow10Tab", "internal/strconv.leftcheats"], apart := false, laid := [("math/bits.deBruijn32tab", laid_math_bits_deBruijn32tab), ("math/bits.deBruijn64tab", laid_math_bits_deBruijn64tab), ("internal/strconv.optimize", laid_internal_strconv_optimize), ("internal/strconv.uint64pow10", laid_internal_strconv_uint64pow10), ("internal/strconv.leftcheats", laid_internal_strconv_leftcheats), ("internal/strconv.pow10Tab", laid_internal_strconv_pow10Tab)], narrowed := true }
def RealReckonsUptoSaid : Prop := realReckonsUptoRow.holds Tryd.pinned (OpenSpec.upto realReckonsSpec)

/-- 'mortmainlaw02.RealKeys', WHERE WHAT IT READS IS OF BULK AT MOST 1048576: true; the input reads as it did. -/
def realKeysUptoRow : OpenClaim := { program := "ytmaciepkkianhaadoor", sum := "8bcd7dc32c16f078a9396a3370ea3c0a1f1946ec7b5d82a511123c6e442d42f3", func := "mortmain/mortmainlaw02.RealKeys", spec := "realKeys", inPlace := ["math.Float64bits", "math.Float64frombits", "internal/strconv.float32bits", "internal/strconv.float64bits"], named := ["internal/strconv.optimize", "internal/strconv.uint64pow10", "math/bits.deBruijn32tab", "math/bits.deBruijn64tab", "internal/strconv.pow10Tab", "internal/strconv.leftcheats"], apart := false, laid := [("math/bits.deBruijn32tab", laid_math_bits_deBruijn32tab), ("math/bits.deBruijn64tab", laid_math_bits_deBruijn64tab), ("internal/strconv.optimize", laid_internal_strconv_optimize), ("internal/strconv.uint64pow10", laid_internal_strconv_uint64pow10), ("internal/strconv.leftcheats", laid_internal_strconv_leftcheats), ("internal/strconv.pow10Tab", laid_internal_strconv_pow10Tab)], narrowed := true }
def RealKeysUptoSaid : Prop := realKeysUptoRow.holds Tryd.pinned (OpenSpec.upto realKeysSpec)

end Rows
end Go.Proofs.YtmaciepkkianhaaDoor
