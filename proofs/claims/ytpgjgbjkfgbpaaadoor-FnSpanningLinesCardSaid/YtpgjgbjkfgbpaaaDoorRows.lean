/-
  NARROWER THAN 'FOR EVERY INPUT', by the rows' own cells (each row's printed sentence says how): FnIslandFeed: laid · FnCycleLines: laid · FnIslandLoad: laid · FnSpanningLines: laid · FnBridgeLines: laid · FnServedLoad: laid · FnFedBy: laid · FnParentLine: laid · FnNetText: laid · FnRadial: laid · FnPathLines: laid.
  DERIVED. THE GIVEN ROWS OF THIS SEAT. 11 by the template 'for every input the law returns true; each argument reads behind the call as it read before'; 0 by the template 'total and deterministic' (their statements: YtpgjgbjkfgbpaaaDoorTotals.lean).
  GIVEN WITH THE SEED: the statements are not yours to turn. If you find one false, say at which input.
  Laid BY PROGRAM, IN A SANDBOX (cutbox-rows.mjs): the forced cells as the released guide's own fill.sh prints them over the translation fdf1b4af3a5c8904… (all of the seat's roots in one cut). By AI agents, Wed Nov 11 2026. No macro, syntax, notation, axiom, sorry.
-/
import Derived.Test.YtpgjgbjkfgbpaaaDoorChecked
import GoSem.PinnedTables
import GoSem.Claim
import GoSem.ClaimJoined
import GoSem.ClaimMapViews
import Derived.JoinedTies
import Derived.KernelRfl
namespace Go.Proofs.YtpgjgbjkfgbpaaaDoor
/- THE CELL 'sum', in the pinned program and in every row, IS THE sha256 OF THE DUMP (.gsa) THAT YtpgjgbjkfgbpaaaDoorProg.lean LOADS. Nothing in Lean hashes anything: it is a label: what it is worth is what the hold of that sum in a sandbox is worth. -/
noncomputable def Tryd.pinned : Pinned := { name := "ytpgjgbjkfgbpaaadoor", sum := "fdf1b4af3a5c8904e66a64f9d914dddfb7fe1b6b997f41454b6e556c8179bba5", checked := Tryd.checked }
namespace Rows
def none {H : Type} : Left H := { results := [], args := [] }

/- WHAT THE LISTED PACKAGE-LEVEL VARIABLES READ AS WHEN THE CALL BEGINS. Each datum BY PROGRAM (the guide's laid-datum.mjs) off the statement by which the dump's own 'gosem.cut.vars' lays the variable. In a bare row this is a premise. The card (YtpgjgbjkfgbpaaaDoorCards.lean) ties it to the program's text. -/
def laid_math_bits_deBruijn32tab {H : Type} : DataW H := .agg [.lit (.int .u8 0), .lit (.int .u8 1), .lit (.int .u8 28), .lit (.int .u8 2), .lit (.int .u8 29), .lit (.int .u8 14), .lit (.int .u8 24), .lit (.int .u8 3), .lit (.int .u8 30), .lit (.int .u8 22), .lit (.int .u8 20), .lit (.int .u8 15), .lit (.int .u8 25), .lit (.int .u8 17), .lit (.int .u8 4), .lit (.int .u8 8), .lit (.int .u8 31), .lit (.int .u8 27), .lit (.int .u8 13), .lit (.int .u8 23), .lit (.int .u8 21), .lit (.int .u8 19), .lit (.int .u8 16), .lit (.int .u8 7), .lit (.int .u8 26), .lit (.int .u8 12), .lit (.int .u8 18), .lit (.int .u8 6), .lit (.int .u8 11), .lit (.int .u8 5), .lit (.int .u8 10), .lit (.int .u8 9)]
def laid_math_bits_deBruijn64tab {H : Type} : DataW H := .agg [.lit (.int .u8 0), .lit (.int .u8 1), .lit (.int .u8 56), .lit (.int .u8 2), .lit (.int .u8 57), .lit (.int .u8 49), .lit (.int .u8 28), .lit (.int .u8 3), .lit (.int .u8 61), .lit (.int .u8 58), .lit (.int .u8 42), .lit (.int .u8 50), .lit (.int .u8 38), .lit (.int .u8 29), .lit (.int .u8 17), .lit (.int .u8 4), .lit (.int .u8 62), .lit (.int .u8 47), .lit (.int .u8 59), .lit (.int .u8 36), .lit (.int .u8 45), .lit (.int .u8 43), .lit (.int .u8 51), .lit (.int .u8 22), .lit (.int .u8 53), .lit (.int .u8 39), .lit (.int .u8 33), .lit (.int .u8 30), .lit (.int .u8 24), .lit (.int .u8 18), .lit (.int .u8 12), .lit (.int .u8 5), .lit (.int .u8 63), .lit (.int .u8 55), .lit (.int .u8 48), .lit (.int .u8 27), .lit (.int .u8 60), .lit (.int .u8 41), .lit (.int .u8 37), .lit (.int .u8 16), .lit (.int .u8 46), .lit (.int .u8 35), .lit (.int .u8 44), .lit (.int .u8 21), .lit (.int .u8 52), .lit (.int .u8 32), .lit (.int .u8 23), .lit (.int .u8 11), .lit (.int .u8 54), .lit (.int .u8 26), .lit (.int .u8 40), .lit (.int .u8 15), .lit (.int .u8 34), .lit (.int .u8 20), .lit (.int .u8 31), .lit (.int .u8 10), .lit (.int .u8 25), .lit (.int .u8 14), .lit (.int .u8 19), .lit (.int .u8 9), .lit (.int .u8 13), .lit (.int .u8 8), .lit (.int .u8 7), .lit (.int .u8 6)]
def laid_internal_strconv_uint64pow10 {H : Type} : DataW H := .agg [.lit (.int .u64 1), .lit (.int .u64 10), .lit (.int .u64 100), .lit (.int .u64 1000), .lit (.int .u64 10000), .lit (.int .u64 100000), .lit (.int .u64 1000000), .lit (.int .u64 10000000), .lit (.int .u64 100000000), .lit (.int .u64 1000000000), .lit (.int .u64 10000000000), .lit (.int .u64 100000000000), .lit (.int .u64 1000000000000), .lit (.int .u64 10000000000000), .lit (.int .u64 100000000000000), .lit (.int .u64 1000000000000000), .lit (.int .u64 10000000000000000), .lit (.int .u64 100000000000000000), .lit (.int .u64 1000000000000000000), .lit (.int .u64 10000000000000000000)]
def laid_unicode_utf8_acceptRanges {H : Type} : DataW H := .agg [.agg [.lit (.int .u8 128), .lit (.int .u8 191)], .agg [.lit (.int .u8 160), .lit (.int .u8 191)], .agg [.lit (.int .u8 128), .lit (.int .u8 159)], .agg [.lit (.int .u8 144), .lit (.int .u8 191)], .agg [.lit (.int .u8 128), .lit (.int .u8 143)], .agg [.lit (.int .u8 0), .lit (.int .u8 0)], .agg [.lit (.int .u8 0), .lit (.int .u8 0)], .agg [.lit (.int .u8 0), .lit (.int .u8 0)], .agg [.lit (.int .u8 0), .lit (.int .u8 0)], .agg [.lit (.int .u8 0), .lit (.int .u8 0)], .agg [.lit (.int .u8 0), .lit (.int .u8 0)], .agg [.lit (.int .u8 0), .lit (.int .u8 0)], .agg [.lit (.int .u8 0), .lit (.int .u8 0)], .agg [.lit (.int .u8 0), .lit (.int .u8 0)], .agg [.lit (.int .u8 0), .lit (.int .u8 0)], .agg [.lit (.int .u8 0), .lit (.int .u8 0)]]
/-- One of Go's own tables, pinned by name: the form's constant. -/
def laid_unicode_utf8_first : DataW Unit := Go.Pinned.utf8First

/-- 'laws.FnIslandFeed': WHATEVER THE INPUT: true; the input reads as it did. -/
def fnIslandFeedSpec : ChangeSpec := { name := "fnIslandFeed", fn := fun _ => fun
  | [d] => { results := [.lit (.bool true)], args := [d] }
  | _ => none }
def fnIslandFeedRow : OpenClaim := { program := "ytpgjgbjkfgbpaaadoor", sum := "fdf1b4af3a5c8904e66a64f9d914dddfb7fe1b6b997f41454b6e556c8179bba5", func := "loop.example/powercontrol/laws.FnIslandFeed", spec := "fnIslandFeed", inPlace := ["internal/abi.NoEscape"], named := ["internal/strconv.uint64pow10", "math/bits.deBruijn32tab", "math/bits.deBruijn64tab"], apart := false, laid := [("math/bits.deBruijn32tab", laid_math_bits_deBruijn32tab), ("math/bits.deBruijn64tab", laid_math_bits_deBruijn64tab), ("internal/strconv.uint64pow10", laid_internal_strconv_uint64pow10)] }
def FnIslandFeedSaid : Prop := fnIslandFeedRow.holds Tryd.pinned (OpenSpec.ofChange fnIslandFeedSpec)

/-- ITS FALSE NEIGHBOUR: 'it returns false'. Refute it at one input. -/
def fnIslandFeedWrong : ChangeSpec := { name := "fnIslandFeed", fn := fun _ => fun
  | [d] => { results := [.lit (.bool false)], args := [d] }
  | _ => none }
def FnIslandFeedWrongFalsely : Prop := fnIslandFeedRow.holds Tryd.pinned (OpenSpec.ofChange fnIslandFeedWrong)

/-- 'laws.FnCycleLines': WHATEVER THE INPUT: true; the input reads as it did. -/
def fnCycleLinesSpec : ChangeSpec := { name := "fnCycleLines", fn := fun _ => fun
  | [d] => { results := [.lit (.bool true)], args := [d] }
  | _ => none }
def fnCycleLinesRow : OpenClaim := { program := "ytpgjgbjkfgbpaaadoor", sum := "fdf1b4af3a5c8904e66a64f9d914dddfb7fe1b6b997f41454b6e556c8179bba5", func := "loop.example/powercontrol/laws.FnCycleLines", spec := "fnCycleLines", inPlace := ["internal/abi.NoEscape"], unfollowed := true, recurses := true, named := ["internal/strconv.uint64pow10", "math/bits.deBruijn32tab", "math/bits.deBruijn64tab"], apart := false, laid := [("math/bits.deBruijn32tab", laid_math_bits_deBruijn32tab), ("math/bits.deBruijn64tab", laid_math_bits_deBruijn64tab), ("internal/strconv.uint64pow10", laid_internal_strconv_uint64pow10)] }
def FnCycleLinesSaid : Prop := fnCycleLinesRow.holds Tryd.pinned (OpenSpec.ofChange fnCycleLinesSpec)

/-- ITS FALSE NEIGHBOUR: 'it returns false'. Refute it at one input. -/
def fnCycleLinesWrong : ChangeSpec := { name := "fnCycleLines", fn := fun _ => fun
  | [d] => { results := [.lit (.bool false)], args := [d] }
  | _ => none }
def FnCycleLinesWrongFalsely : Prop := fnCycleLinesRow.holds Tryd.pinned (OpenSpec.ofChange fnCycleLinesWrong)

/-- 'laws.FnIslandLoad': WHATEVER THE INPUT: true; the input reads as it did. -/
def fnIslandLoadSpec : ChangeSpec := { name := "fnIslandLoad", fn := fun _ => fun
  | [d] => { results := [.lit (.bool true)], args := [d] }
  | _ => none }
def fnIslandLoadRow : OpenClaim := { program := "ytpgjgbjkfgbpaaadoor", sum := "fdf1b4af3a5c8904e66a64f9d914dddfb7fe1b6b997f41454b6e556c8179bba5", func := "loop.example/powercontrol/laws.FnIslandLoad", spec := "fnIslandLoad", inPlace := ["internal/abi.NoEscape"], named := ["internal/strconv.uint64pow10", "math/bits.deBruijn32tab", "math/bits.deBruijn64tab"], apart := false, laid := [("math/bits.deBruijn32tab", laid_math_bits_deBruijn32tab), ("math/bits.deBruijn64tab", laid_math_bits_deBruijn64tab), ("internal/strconv.uint64pow10", laid_internal_strconv_uint64pow10)] }
def FnIslandLoadSaid : Prop := fnIslandLoadRow.holds Tryd.pinned (OpenSpec.ofChange fnIslandLoadSpec)

/-- ITS FALSE NEIGHBOUR: 'it returns false'. Refute it at one input. -/
def fnIslandLoadWrong : ChangeSpec := { name := "fnIslandLoad", fn := fun _ => fun
  | [d] => { results := [.lit (.bool false)], args := [d] }
  | _ => none }
def FnIslandLoadWrongFalsely : Prop := fnIslandLoadRow.holds Tryd.pinned (OpenSpec.ofChange fnIslandLoadWrong)

/-- 'laws.FnSpanningLines': WHATEVER THE INPUT: true; the input reads as it did. -/
def fnSpanningLinesSpec : ChangeSpec := { name := "fnSpanningLines", fn := fun _ => fun
  | [d] => { results := [.lit (.bool true)], args := [d] }
  | _ => none }
def fnSpanningLinesRow : OpenClaim := { program := "ytpgjgbjkfgbpaaadoor", sum := "fdf1b4af3a5c8904e66a64f9d914dddfb7fe1b6b997f41454b6e556c8179bba5", func := "loop.example/powercontrol/laws.FnSpanningLines", spec := "fnSpanningLines", inPlace := ["internal/abi.NoEscape"], unfollowed := true, recurses := true, named := ["internal/strconv.uint64pow10", "math/bits.deBruijn32tab", "math/bits.deBruijn64tab"], apart := false, laid := [("math/bits.deBruijn32tab", laid_math_bits_deBruijn32tab), ("math/bits.deBruijn64tab", laid_math_bits_deBruijn64tab), ("internal/strconv.uint64pow10", laid_internal_strconv_uint64pow10)] }
def FnSpanningLinesSaid : Prop := fnSpanningLinesRow.holds Tryd.pinned (OpenSpec.ofChange fnSpanningLinesSpec)

/-- ITS FALSE NEIGHBOUR: 'it returns false'. Refute it at one input. -/
def fnSpanningLinesWrong : ChangeSpec := { name := "fnSpanningLines", fn := fun _ => fun
  | [d] => { results := [.lit (.bool false)], args := [d] }
  | _ => none }
def FnSpanningLinesWrongFalsely : Prop := fnSpanningLinesRow.holds Tryd.pinned (OpenSpec.ofChange fnSpanningLinesWrong)

/-- 'laws.FnBridgeLines': WHATEVER THE INPUT: true; the input reads as it did. -/
def fnBridgeLinesSpec : ChangeSpec := { name := "fnBridgeLines", fn := fun _ => fun
  | [d] => { results := [.lit (.bool true)], args := [d] }
  | _ => none }
def fnBridgeLinesRow : OpenClaim := { program := "ytpgjgbjkfgbpaaadoor", sum := "fdf1b4af3a5c8904e66a64f9d914dddfb7fe1b6b997f41454b6e556c8179bba5", func := "loop.example/powercontrol/laws.FnBridgeLines", spec := "fnBridgeLines", inPlace := ["internal/abi.NoEscape"], unfollowed := true, recurses := true, named := ["internal/strconv.uint64pow10", "math/bits.deBruijn32tab", "math/bits.deBruijn64tab"], apart := false, laid := [("math/bits.deBruijn32tab", laid_math_bits_deBruijn32tab), ("math/bits.deBruijn64tab", laid_math_bits_deBruijn64tab), ("internal/strconv.uint64pow10", laid_internal_strconv_uint64pow10)] }
def FnBridgeLinesSaid : Prop := fnBridgeLinesRow.holds Tryd.pinned (OpenSpec.ofChange fnBridgeLinesSpec)

/-- ITS FALSE NEIGHBOUR: 'it returns false'. Refute it at one input. -/
def fnBridgeLinesWrong : ChangeSpec := { name := "fnBridgeLines", fn := fun _ => fun
  | [d] => { results := [.lit (.bool false)], args := [d] }
  | _ => none }
def FnBridgeLinesWrongFalsely : Prop := fnBridgeLinesRow.holds Tryd.pinned (OpenSpec.ofChange fnBridgeLinesWrong)

/-- 'laws.FnServedLoad': WHATEVER THE INPUT: true; the input reads as it did. -/
def fnServedLoadSpec : ChangeSpec := { name := "fnServedLoad", fn := fun _ => fun
  | [d] => { results := [.lit (.bool true)], args := [d] }
  | _ => none }
def fnServedLoadRow : OpenClaim := { program := "ytpgjgbjkfgbpaaadoor", sum := "fdf1b4af3a5c8904e66a64f9d914dddfb7fe1b6b997f41454b6e556c8179bba5", func := "loop.example/powercontrol/laws.FnServedLoad", spec := "fnServedLoad", inPlace := ["internal/abi.NoEscape"], named := ["internal/strconv.uint64pow10", "math/bits.deBruijn32tab", "math/bits.deBruijn64tab"], apart := false, laid := [("math/bits.deBruijn32tab", laid_math_bits_deBruijn32tab), ("math/bits.deBruijn64tab", laid_math_bits_deBruijn64tab), ("internal/strconv.uint64pow10", laid_internal_strconv_uint64pow10)] }
def FnServedLoadSaid : Prop := fnServedLoadRow.holds Tryd.pinned (OpenSpec.ofChange fnServedLoadSpec)

/-- ITS FALSE NEIGHBOUR: 'it returns false'. Refute it at one input. -/
def fnServedLoadWrong : ChangeSpec := { name := "fnServedLoad", fn := fun _ => fun
  | [d] => { results := [.lit (.bool false)], args := [d] }
  | _ => none }
def FnServedLoadWrongFalsely : Prop := fnServedLoadRow.holds Tryd.pinned (OpenSpec.ofChange fnServedLoadWrong)

/-- 'laws.FnFedBy': WHATEVER THE INPUT: true; the input reads as it did. -/
def fnFedBySpec : ChangeSpec := { name := "fnFedBy", fn := fun _ => fun
  | [d] => { results := [.lit (.bool true)], args := [d] }
  | _ => none }
def fnFedByRow : OpenClaim := { program := "ytpgjgbjkfgbpaaadoor", sum := "fdf1b4af3a5c8904e66a64f9d914dddfb7fe1b6b997f41454b6e556c8179bba5", func := "loop.example/powercontrol/laws.FnFedBy", spec := "fnFedBy", inPlace := ["internal/abi.NoEscape"], named := ["internal/strconv.uint64pow10", "math/bits.deBruijn32tab", "math/bits.deBruijn64tab"], apart := false, laid := [("math/bits.deBruijn32tab", laid_math_bits_deBruijn32tab), ("math/bits.deBruijn64tab", laid_math_bits_deBruijn64tab), ("internal/strconv.uint64pow10", laid_internal_strconv_uint64pow10)] }
def FnFedBySaid : Prop := fnFedByRow.holds Tryd.pinned (OpenSpec.ofChange fnFedBySpec)

/-- ITS FALSE NEIGHBOUR: 'it returns false'. Refute it at one input. -/
def fnFedByWrong : ChangeSpec := { name := "fnFedBy", fn := fun _ => fun
  | [d] => { results := [.lit (.bool false)], args := [d] }
  | _ => none }
def FnFedByWrongFalsely : Prop := fnFedByRow.holds Tryd.pinned (OpenSpec.ofChange fnFedByWrong)

/-- 'laws.FnParentLine': WHATEVER THE INPUT: true; the input reads as it did. -/
def fnParentLineSpec : ChangeSpec := { name := "fnParentLine", fn := fun _ => fun
  | [d] => { results := [.lit (.bool true)], args := [d] }
  | _ => none }
def fnParentLineRow : OpenClaim := { program := "ytpgjgbjkfgbpaaadoor", sum := "fdf1b4af3a5c8904e66a64f9d914dddfb7fe1b6b997f41454b6e556c8179bba5", func := "loop.example/powercontrol/laws.FnParentLine", spec := "fnParentLine", inPlace := ["internal/abi.NoEscape"], named := ["internal/strconv.uint64pow10", "math/bits.deBruijn32tab", "math/bits.deBruijn64tab"], apart := false, laid := [("math/bits.deBruijn32tab", laid_math_bits_deBruijn32tab), ("math/bits.deBruijn64tab", laid_math_bits_deBruijn64tab), ("internal/strconv.uint64pow10", laid_internal_strconv_uint64pow10)] }
def FnParentLineSaid : Prop := fnParentLineRow.holds Tryd.pinned (OpenSpec.ofChange fnParentLineSpec)

/-- ITS FALSE NEIGHBOUR: 'it returns false'. Refute it at one input. -/
def fnParentLineWrong : ChangeSpec := { name := "fnParentLine", fn := fun _ => fun
  | [d] => { results := [.lit (.bool false)], args := [d] }
  | _ => none }
def FnParentLineWrongFalsely : Prop := fnParentLineRow.holds Tryd.pinned (OpenSpec.ofChange fnParentLineWrong)

/-- 'laws.FnNetText': WHATEVER THE INPUT: true; the input reads as it did. -/
def fnNetTextSpec : ChangeSpec := { name := "fnNetText", fn := fun _ => fun
  | [d] => { results := [.lit (.bool true)], args := [d] }
  | _ => none }
def fnNetTextRow : OpenClaim := { program := "ytpgjgbjkfgbpaaadoor", sum := "fdf1b4af3a5c8904e66a64f9d914dddfb7fe1b6b997f41454b6e556c8179bba5", func := "loop.example/powercontrol/laws.FnNetText", spec := "fnNetText", inPlace := ["internal/abi.NoEscape", "internal/bytealg.CountString", "internal/bytealg.IndexByteString", "internal/bytealg.IndexString"], recurses := true, named := ["internal/strconv.uint64pow10", "math/bits.deBruijn32tab", "math/bits.deBruijn64tab", "unicode/utf8.first", "unicode/utf8.acceptRanges", "internal/bytealg.MaxLen"], apart := false, laid := [("math/bits.deBruijn32tab", laid_math_bits_deBruijn32tab), ("math/bits.deBruijn64tab", laid_math_bits_deBruijn64tab), ("internal/strconv.uint64pow10", laid_internal_strconv_uint64pow10), ("unicode/utf8.acceptRanges", laid_unicode_utf8_acceptRanges), ("unicode/utf8.first", laid_unicode_utf8_first)] }
def FnNetTextSaid : Prop := fnNetTextRow.holds Tryd.pinned (OpenSpec.ofChange fnNetTextSpec)

/-- ITS FALSE NEIGHBOUR: 'it returns false'. Refute it at one input. -/
def fnNetTextWrong : ChangeSpec := { name := "fnNetText", fn := fun _ => fun
  | [d] => { results := [.lit (.bool false)], args := [d] }
  | _ => none }
def FnNetTextWrongFalsely : Prop := fnNetTextRow.holds Tryd.pinned (OpenSpec.ofChange fnNetTextWrong)

/-- 'laws.FnRadial': WHATEVER THE INPUT: true; the input reads as it did. -/
def fnRadialSpec : ChangeSpec := { name := "fnRadial", fn := fun _ => fun
  | [d] => { results := [.lit (.bool true)], args := [d] }
  | _ => none }
def fnRadialRow : OpenClaim := { program := "ytpgjgbjkfgbpaaadoor", sum := "fdf1b4af3a5c8904e66a64f9d914dddfb7fe1b6b997f41454b6e556c8179bba5", func := "loop.example/powercontrol/laws.FnRadial", spec := "fnRadial", inPlace := ["internal/abi.NoEscape"], named := ["internal/strconv.uint64pow10", "math/bits.deBruijn32tab", "math/bits.deBruijn64tab"], apart := false, laid := [("math/bits.deBruijn32tab", laid_math_bits_deBruijn32tab), ("math/bits.deBruijn64tab", laid_math_bits_deBruijn64tab), ("internal/strconv.uint64pow10", laid_internal_strconv_uint64pow10)] }
def FnRadialSaid : Prop := fnRadialRow.holds Tryd.pinned (OpenSpec.ofChange fnRadialSpec)

/-- ITS FALSE NEIGHBOUR: 'it returns false'. Refute it at one input. -/
def fnRadialWrong : ChangeSpec := { name := "fnRadial", fn := fun _ => fun
  | [d] => { results := [.lit (.bool false)], args := [d] }
  | _ => none }
def FnRadialWrongFalsely : Prop := fnRadialRow.holds Tryd.pinned (OpenSpec.ofChange fnRadialWrong)

/-- 'laws.FnPathLines': WHATEVER THE INPUT: true; the input reads as it did. -/
def fnPathLinesSpec : ChangeSpec := { name := "fnPathLines", fn := fun _ => fun
  | [d] => { results := [.lit (.bool true)], args := [d] }
  | _ => none }
def fnPathLinesRow : OpenClaim := { program := "ytpgjgbjkfgbpaaadoor", sum := "fdf1b4af3a5c8904e66a64f9d914dddfb7fe1b6b997f41454b6e556c8179bba5", func := "loop.example/powercontrol/laws.FnPathLines", spec := "fnPathLines", inPlace := ["internal/abi.NoEscape"], named := ["internal/strconv.uint64pow10", "math/bits.deBruijn32tab", "math/bits.deBruijn64tab"], apart := false, laid := [("math/bits.deBruijn32tab", laid_math_bits_deBruijn32tab), ("math/bits.deBruijn64tab", laid_math_bits_deBruijn64tab), ("internal/strconv.uint64pow10", laid_internal_strconv_uint64pow10)] }
def FnPathLinesSaid : Prop := fnPathLinesRow.holds Tryd.pinned (OpenSpec.ofChange fnPathLinesSpec)

/-- ITS FALSE NEIGHBOUR: 'it returns false'. Refute it at one input. -/
def fnPathLinesWrong : ChangeSpec := { name := "fnPathLines", fn := fun _ => fun
  | [d] => { results := [.lit (.bool false)], args := [d] }
  | _ => none }
def FnPathLinesWrongFalsely : Prop := fnPathLinesRow.holds Tryd.pinned (OpenSpec.ofChange fnPathLinesWrong)

/- THE SECOND FORM. 'bulk': how many values and letters a reading holds, each counted each time it is reached (what is shared counts as often as it is met; a slice's spare places count too). A statement '..UptoSaid' is the law's where the arguments, and the package variables that the reading takes, are together of bulk at most 1048576: NARROWER than '..Said'. Prove '..Said' where nothing that the law and all that it calls make is longer than what came in: it says more and counts as full. Else prove '..UptoSaid'. A law counts once. -/
mutual
def uptoBulk {H : Type} : DataW H → Nat
  | .lit (.string bytes) => bytes.length + 1
  | .lit _ => 1
  | .nil => 1
  | .ptr d => uptoBulk d + 1
  | .slice elems spare => uptoBulkAll elems + uptoBulkAll spare + 1
  | .agg parts => uptoBulkAll parts + 1
  | .iface _ d => uptoBulk d + 1
  | .map entries => uptoBulkEntries entries + 1
  | .held _ => 1
def uptoBulkAll {H : Type} : List (DataW H) → Nat
  | [] => 0
  | d :: r => uptoBulk d + uptoBulkAll r
def uptoBulkEntries {H : Type} : List (Lit × DataW H) → Nat
  | [] => 0
  | x :: r => uptoBulkEntry x + uptoBulkEntries r
def uptoBulkEntry {H : Type} : Lit × DataW H → Nat
  | (.string bytes, d) => bytes.length + uptoBulk d + 1
  | (_, d) => uptoBulk d + 1
 end
def uptoSmall : (H : Type) → List (DataW H) → Bool := fun _ ds => decide (uptoBulkAll ds ≤ 1048576)
def OpenSpec.upto (s : _root_.Go.ChangeSpec) : _root_.Go.OpenSpec := { _root_.Go.OpenSpec.ofChange s with cond := some uptoSmall }

/-- 'laws.FnIslandFeed', WHERE WHAT IT READS IS OF BULK AT MOST 1048576: true; the input reads as it did. -/
def fnIslandFeedUptoRow : OpenClaim := { program := "ytpgjgbjkfgbpaaadoor", sum := "fdf1b4af3a5c8904e66a64f9d914dddfb7fe1b6b997f41454b6e556c8179bba5", func := "loop.example/powercontrol/laws.FnIslandFeed", spec := "fnIslandFeed", inPlace := ["internal/abi.NoEscape"], named := ["internal/strconv.uint64pow10", "math/bits.deBruijn32tab", "math/bits.deBruijn64tab"], apart := false, laid := [("math/bits.deBruijn32tab", laid_math_bits_deBruijn32tab), ("math/bits.deBruijn64tab", laid_math_bits_deBruijn64tab), ("internal/strconv.uint64pow10", laid_internal_strconv_uint64pow10)], narrowed := true }
def FnIslandFeedUptoSaid : Prop := fnIslandFeedUptoRow.holds Tryd.pinned (OpenSpec.upto fnIslandFeedSpec)

/-- 'laws.FnCycleLines', WHERE WHAT IT READS IS OF BULK AT MOST 1048576: true; the input reads as it did. -/
def fnCycleLinesUptoRow : OpenClaim := { program := "ytpgjgbjkfgbpaaadoor", sum := "fdf1b4af3a5c8904e66a64f9d914dddfb7fe1b6b997f41454b6e556c8179bba5", func := "loop.example/powercontrol/laws.FnCycleLines", spec := "fnCycleLines", inPlace := ["internal/abi.NoEscape"], unfollowed := true, recurses := true, named := ["internal/strconv.uint64pow10", "math/bits.deBruijn32tab", "math/bits.deBruijn64tab"], apart := false, laid := [("math/bits.deBruijn32tab", laid_math_bits_deBruijn32tab), ("math/bits.deBruijn64tab", laid_math_bits_deBruijn64tab), ("internal/strconv.uint64pow10", laid_internal_strconv_uint64pow10)], narrowed := true }
def FnCycleLinesUptoSaid : Prop := fnCycleLinesUptoRow.holds Tryd.pinned (OpenSpec.upto fnCycleLinesSpec)

/-- 'laws.FnIslandLoad', WHERE WHAT IT READS IS OF BULK AT MOST 1048576: true; the input reads as it did. -/
def fnIslandLoadUptoRow : OpenClaim := { program := "ytpgjgbjkfgbpaaadoor", sum := "fdf1b4af3a5c8904e66a64f9d914dddfb7fe1b6b997f41454b6e556c8179bba5", func := "loop.example/powercontrol/laws.FnIslandLoad", spec := "fnIslandLoad", inPlace := ["internal/abi.NoEscape"], named := ["internal/strconv.uint64pow10", "math/bits.deBruijn32tab", "math/bits.deBruijn64tab"], apart := false, laid := [("math/bits.deBruijn32tab", laid_math_bits_deBruijn32tab), ("math/bits.deBruijn64tab", laid_math_bits_deBruijn64tab), ("internal/strconv.uint64pow10", laid_internal_strconv_uint64pow10)], narrowed := true }
def FnIslandLoadUptoSaid : Prop := fnIslandLoadUptoRow.holds Tryd.pinned (OpenSpec.upto fnIslandLoadSpec)

/-- 'laws.FnSpanningLines', WHERE WHAT IT READS IS OF BULK AT MOST 1048576: true; the input reads as it did. -/
def fnSpanningLinesUptoRow : OpenClaim := { program := "ytpgjgbjkfgbpaaadoor", sum := "fdf1b4af3a5c8904e66a64f9d914dddfb7fe1b6b997f41454b6e556c8179bba5", func := "loop.example/powercontrol/laws.FnSpanningLines", spec := "fnSpanningLines", inPlace := ["internal/abi.NoEscape"], unfollowed := true, recurses := true, named := ["internal/strconv.uint64pow10", "math/bits.deBruijn32tab", "math/bits.deBruijn64tab"], apart := false, laid := [("math/bits.deBruijn32tab", laid_math_bits_deBruijn32tab), ("math/bits.deBruijn64tab", laid_math_bits_deBruijn64tab), ("internal/strconv.uint64pow10", laid_internal_strconv_uint64pow10)], narrowed := true }
def FnSpanningLinesUptoSaid : Prop := fnSpanningLinesUptoRow.holds Tryd.pinned (OpenSpec.upto fnSpanningLinesSpec)

/-- 'laws.FnBridgeLines', WHERE WHAT IT READS IS OF BULK AT MOST 1048576: true; the input reads as it did. -/
def fnBridgeLinesUptoRow : OpenClaim := { program := "ytpgjgbjkfgbpaaadoor", sum := "fdf1b4af3a5c8904e66a64f9d914dddfb7fe1b6b997f41454b6e556c8179bba5", func := "loop.example/powercontrol/laws.FnBridgeLines", spec := "fnBridgeLines", inPlace := ["internal/abi.NoEscape"], unfollowed := true, recurses := true, named := ["internal/strconv.uint64pow10", "math/bits.deBruijn32tab", "math/bits.deBruijn64tab"], apart := false, laid := [("math/bits.deBruijn32tab", laid_math_bits_deBruijn32tab), ("math/bits.deBruijn64tab", laid_math_bits_deBruijn64tab), ("internal/strconv.uint64pow10", laid_internal_strconv_uint64pow10)], narrowed := true }
def FnBridgeLinesUptoSaid : Prop := fnBridgeLinesUptoRow.holds Tryd.pinned (OpenSpec.upto fnBridgeLinesSpec)

/-- 'laws.FnServedLoad', WHERE WHAT IT READS IS OF BULK AT MOST 1048576: true; the input reads as it did. -/
def fnServedLoadUptoRow : OpenClaim := { program := "ytpgjgbjkfgbpaaadoor", sum := "fdf1b4af3a5c8904e66a64f9d914dddfb7fe1b6b997f41454b6e556c8179bba5", func := "loop.example/powercontrol/laws.FnServedLoad", spec := "fnServedLoad", inPlace := ["internal/abi.NoEscape"], named := ["internal/strconv.uint64pow10", "math/bits.deBruijn32tab", "math/bits.deBruijn64tab"], apart := false, laid := [("math/bits.deBruijn32tab", laid_math_bits_deBruijn32tab), ("math/bits.deBruijn64tab", laid_math_bits_deBruijn64tab), ("internal/strconv.uint64pow10", laid_internal_strconv_uint64pow10)], narrowed := true }
def FnServedLoadUptoSaid : Prop := fnServedLoadUptoRow.holds Tryd.pinned (OpenSpec.upto fnServedLoadSpec)

/-- 'laws.FnFedBy', WHERE WHAT IT READS IS OF BULK AT MOST 1048576: true; the input reads as it did. -/
def fnFedByUptoRow : OpenClaim := { program := "ytpgjgbjkfgbpaaadoor", sum := "fdf1b4af3a5c8904e66a64f9d914dddfb7fe1b6b997f41454b6e556c8179bba5", func := "loop.example/powercontrol/laws.FnFedBy", spec := "fnFedBy", inPlace := ["internal/abi.NoEscape"], named := ["internal/strconv.uint64pow10", "math/bits.deBruijn32tab", "math/bits.deBruijn64tab"], apart := false, laid := [("math/bits.deBruijn32tab", laid_math_bits_deBruijn32tab), ("math/bits.deBruijn64tab", laid_math_bits_deBruijn64tab), ("internal/strconv.uint64pow10", laid_internal_strconv_uint64pow10)], narrowed := true }
def FnFedByUptoSaid : Prop := fnFedByUptoRow.holds Tryd.pinned (OpenSpec.upto fnFedBySpec)

/-- 'laws.FnParentLine', WHERE WHAT IT READS IS OF BULK AT MOST 1048576: true; the input reads as it did. -/
def fnParentLineUptoRow : OpenClaim := { program := "ytpgjgbjkfgbpaaadoor", sum := "fdf1b4af3a5c8904e66a64f9d914dddfb7fe1b6b997f41454b6e556c8179bba5", func := "loop.example/powercontrol/laws.FnParentLine", spec := "fnParentLine", inPlace := ["internal/abi.NoEscape"], named := ["internal/strconv.uint64pow10", "math/bits.deBruijn32tab", "math/bits.deBruijn64tab"], apart := false, laid := [("math/bits.deBruijn32tab", laid_math_bits_deBruijn32tab), ("math/bits.deBruijn64tab", laid_math_bits_deBruijn64tab), ("internal/strconv.uint64pow10", laid_internal_strconv_uint64pow10)], narrowed := true }
def FnParentLineUptoSaid : Prop := fnParentLineUptoRow.holds Tryd.pinned (OpenSpec.upto fnParentLineSpec)

/-- 'laws.FnNetText', WHERE WHAT IT READS IS OF BULK AT MOST 1048576: true; the input reads as it did. -/
def fnNetTextUptoRow : OpenClaim := { program := "ytpgjgbjkfgbpaaadoor", sum := "fdf1b4af3a5c8904e66a64f9d914dddfb7fe1b6b997f41454b6e556c8179bba5", func := "loop.example/powercontrol/laws.FnNetText", spec := "fnNetText", inPlace := ["internal/abi.NoEscape", "internal/bytealg.CountString", "internal/bytealg.IndexByteString", "internal/bytealg.IndexString"], recurses := true, named := ["internal/strconv.uint64pow10", "math/bits.deBruijn32tab", "math/bits.deBruijn64tab", "unicode/utf8.first", "unicode/utf8.acceptRanges", "internal/bytealg.MaxLen"], apart := false, laid := [("math/bits.deBruijn32tab", laid_math_bits_deBruijn32tab), ("math/bits.deBruijn64tab", laid_math_bits_deBruijn64tab), ("internal/strconv.uint64pow10", laid_internal_strconv_uint64pow10), ("unicode/utf8.acceptRanges", laid_unicode_utf8_acceptRanges), ("unicode/utf8.first", laid_unicode_utf8_first)], narrowed := true }
def FnNetTextUptoSaid : Prop := fnNetTextUptoRow.holds Tryd.pinned (OpenSpec.upto fnNetTextSpec)

/-- 'laws.FnRadial', WHERE WHAT IT READS IS OF BULK AT MOST 1048576: true; the input reads as it did. -/
def fnRadialUptoRow : OpenClaim := { program := "ytpgjgbjkfgbpaaadoor", sum := "fdf1b4af3a5c8904e66a64f9d914dddfb7fe1b6b997f41454b6e556c8179bba5", func := "loop.example/powercontrol/laws.FnRadial", spec := "fnRadial", inPlace := ["internal/abi.NoEscape"], named := ["internal/strconv.uint64pow10", "math/bits.deBruijn32tab", "math/bits.deBruijn64tab"], apart := false, laid := [("math/bits.deBruijn32tab", laid_math_bits_deBruijn32tab), ("math/bits.deBruijn64tab", laid_math_bits_deBruijn64tab), ("internal/strconv.uint64pow10", laid_internal_strconv_uint64pow10)], narrowed := true }
def FnRadialUptoSaid : Prop := fnRadialUptoRow.holds Tryd.pinned (OpenSpec.upto fnRadialSpec)

/-- 'laws.FnPathLines', WHERE WHAT IT READS IS OF BULK AT MOST 1048576: true; the input reads as it did. -/
def fnPathLinesUptoRow : OpenClaim := { program := "ytpgjgbjkfgbpaaadoor", sum := "fdf1b4af3a5c8904e66a64f9d914dddfb7fe1b6b997f41454b6e556c8179bba5", func := "loop.example/powercontrol/laws.FnPathLines", spec := "fnPathLines", inPlace := ["internal/abi.NoEscape"], named := ["internal/strconv.uint64pow10", "math/bits.deBruijn32tab", "math/bits.deBruijn64tab"], apart := false, laid := [("math/bits.deBruijn32tab", laid_math_bits_deBruijn32tab), ("math/bits.deBruijn64tab", laid_math_bits_deBruijn64tab), ("internal/strconv.uint64pow10", laid_internal_strconv_uint64pow10)], narrowed := true }
def FnPathLinesUptoSaid : Prop := fnPathLinesUptoRow.holds Tryd.pinned (OpenSpec.upto fnPathLinesSpec)

end Rows
end Go.Proofs.YtpgjgbjkfgbpaaaDoor
