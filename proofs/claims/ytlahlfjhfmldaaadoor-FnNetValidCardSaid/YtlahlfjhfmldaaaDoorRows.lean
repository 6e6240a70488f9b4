/-
  NARROWER THAN 'FOR EVERY INPUT', by the rows' own cells (each row's printed sentence says how): FnNetValid: laid · FnStateOf: laid · FnExactNetText: laid · FnStateValid: laid · FnLineBetween: laid · FnOtherEnd: laid · FnLinesAt: laid · FnBusesValid: laid · FnStateNumber: laid.
  DERIVED. THE GIVEN ROWS OF THIS SEAT. 9 by the template 'for every input the law returns true; each argument reads behind the call as it read before'; 0 by the template 'total and deterministic' (their statements: YtlahlfjhfmldaaaDoorTotals.lean).
  GIVEN WITH THE SEED: the statements are not yours to turn. If you find one false, say at which input.
  Laid BY PROGRAM, IN A SANDBOX (cutbox-rows.mjs): the forced cells as the released guide's own fill.sh prints them over the translation 99b989c6df0043b9… (all of the seat's roots in one cut). By AI agents, Wed Nov 11 2026. No macro, syntax, notation, axiom, sorry.
-/
import Derived.Test.YtlahlfjhfmldaaaDoorChecked
import GoSem.Claim
import GoSem.ClaimJoined
import GoSem.ClaimMapViews
import Derived.JoinedTies
import Derived.KernelRfl
namespace Go.Proofs.YtlahlfjhfmldaaaDoor
/- THE CELL 'sum', in the pinned program and in every row, IS THE sha256 OF THE DUMP (.gsa) THAT YtlahlfjhfmldaaaDoorProg.lean LOADS. Nothing in Lean hashes anything: it is a label: what it is worth is what the hold of that sum in a sandbox is worth. -/
noncomputable def Tryd.pinned : Pinned := { name := "ytlahlfjhfmldaaadoor", sum := "99b989c6df0043b9616027117d442d55544836af29325013245a96e0b8be9445", checked := Tryd.checked }
namespace Rows
def none {H : Type} : Left H := { results := [], args := [] }

/- WHAT THE LISTED PACKAGE-LEVEL VARIABLES READ AS WHEN THE CALL BEGINS. Each datum BY PROGRAM (the guide's laid-datum.mjs) off the statement by which the dump's own 'gosem.cut.vars' lays the variable. In a bare row this is a premise. The card (YtlahlfjhfmldaaaDoorCards.lean) ties it to the program's text. -/
def laid_math_bits_deBruijn32tab {H : Type} : DataW H := .agg [.lit (.int .u8 0), .lit (.int .u8 1), .lit (.int .u8 28), .lit (.int .u8 2), .lit (.int .u8 29), .lit (.int .u8 14), .lit (.int .u8 24), .lit (.int .u8 3), .lit (.int .u8 30), .lit (.int .u8 22), .lit (.int .u8 20), .lit (.int .u8 15), .lit (.int .u8 25), .lit (.int .u8 17), .lit (.int .u8 4), .lit (.int .u8 8), .lit (.int .u8 31), .lit (.int .u8 27), .lit (.int .u8 13), .lit (.int .u8 23), .lit (.int .u8 21), .lit (.int .u8 19), .lit (.int .u8 16), .lit (.int .u8 7), .lit (.int .u8 26), .lit (.int .u8 12), .lit (.int .u8 18), .lit (.int .u8 6), .lit (.int .u8 11), .lit (.int .u8 5), .lit (.int .u8 10), .lit (.int .u8 9)]
def laid_math_bits_deBruijn64tab {H : Type} : DataW H := .agg [.lit (.int .u8 0), .lit (.int .u8 1), .lit (.int .u8 56), .lit (.int .u8 2), .lit (.int .u8 57), .lit (.int .u8 49), .lit (.int .u8 28), .lit (.int .u8 3), .lit (.int .u8 61), .lit (.int .u8 58), .lit (.int .u8 42), .lit (.int .u8 50), .lit (.int .u8 38), .lit (.int .u8 29), .lit (.int .u8 17), .lit (.int .u8 4), .lit (.int .u8 62), .lit (.int .u8 47), .lit (.int .u8 59), .lit (.int .u8 36), .lit (.int .u8 45), .lit (.int .u8 43), .lit (.int .u8 51), .lit (.int .u8 22), .lit (.int .u8 53), .lit (.int .u8 39), .lit (.int .u8 33), .lit (.int .u8 30), .lit (.int .u8 24), .lit (.int .u8 18), .lit (.int .u8 12), .lit (.int .u8 5), .lit (.int .u8 63), .lit (.int .u8 55), .lit (.int .u8 48), .lit (.int .u8 27), .lit (.int .u8 60), .lit (.int .u8 41), .lit (.int .u8 37), .lit (.int .u8 16), .lit (.int .u8 46), .lit (.int .u8 35), .lit (.int .u8 44), .lit (.int .u8 21), .lit (.int .u8 52), .lit (.int .u8 32), .lit (.int .u8 23), .lit (.int .u8 11), .lit (.int .u8 54), .lit (.int .u8 26), .lit (.int .u8 40), .lit (.int .u8 15), .lit (.int .u8 34), .lit (.int .u8 20), .lit (.int .u8 31), .lit (.int .u8 10), .lit (.int .u8 25), .lit (.int .u8 14), .lit (.int .u8 19), .lit (.int .u8 9), .lit (.int .u8 13), .lit (.int .u8 8), .lit (.int .u8 7), .lit (.int .u8 6)]
def laid_internal_strconv_uint64pow10 {H : Type} : DataW H := .agg [.lit (.int .u64 1), .lit (.int .u64 10), .lit (.int .u64 100), .lit (.int .u64 1000), .lit (.int .u64 10000), .lit (.int .u64 100000), .lit (.int .u64 1000000), .lit (.int .u64 10000000), .lit (.int .u64 100000000), .lit (.int .u64 1000000000), .lit (.int .u64 10000000000), .lit (.int .u64 100000000000), .lit (.int .u64 1000000000000), .lit (.int .u64 10000000000000), .lit (.int .u64 100000000000000), .lit (.int .u64 1000000000000000), .lit (.int .u64 10000000000000000), .lit (.int .u64 100000000000000000), .lit (.int .u64 1000000000000000000), .lit (.int .u64 10000000000000000000)]

/-- 'laws.FnNetValid': WHATEVER THE INPUT: true; the input reads as it did. -/
def fnNetValidSpec : ChangeSpec := { name := "fnNetValid", fn := fun _ => fun
  | [d] => { results := [.lit (.bool true)], args := [d] }
  | _ => none }
def fnNetValidRow : OpenClaim := { program := "ytlahlfjhfmldaaadoor", sum := "99b989c6df0043b9616027117d442d55544836af29325013245a96e0b8be9445", func := "loop.example/powercontrol/laws.FnNetValid", spec := "fnNetValid", inPlace := ["internal/abi.NoEscape"], named := ["internal/strconv.uint64pow10", "math/bits.deBruijn32tab", "math/bits.deBruijn64tab"], apart := false, laid := [("math/bits.deBruijn32tab", laid_math_bits_deBruijn32tab), ("math/bits.deBruijn64tab", laid_math_bits_deBruijn64tab), ("internal/strconv.uint64pow10", laid_internal_strconv_uint64pow10)] }
def FnNetValidSaid : Prop := fnNetValidRow.holds Tryd.pinned (OpenSpec.ofChange fnNetValidSpec)

/-- ITS FALSE NEIGHBOUR: 'it returns false'. Refute it at one input. -/
def fnNetValidWrong : ChangeSpec := { name := "fnNetValid", fn := fun _ => fun
  | [d] => { results := [.lit (.bool false)], args := [d] }
  | _ => none }
def FnNetValidWrongFalsely : Prop := fnNetValidRow.holds Tryd.pinned (OpenSpec.ofChange fnNetValidWrong)

/-- 'laws.FnStateOf': WHATEVER THE INPUT: true; the input reads as it did. -/
def fnStateOfSpec : ChangeSpec := { name := "fnStateOf", fn := fun _ => fun
  | [d] => { results := [.lit (.bool true)], args := [d] }
  | _ => none }
def fnStateOfRow : OpenClaim := { program := "ytlahlfjhfmldaaadoor", sum := "99b989c6df0043b9616027117d442d55544836af29325013245a96e0b8be9445", func := "loop.example/powercontrol/laws.FnStateOf", spec := "fnStateOf", inPlace := ["internal/abi.NoEscape"], named := ["internal/strconv.uint64pow10", "math/bits.deBruijn32tab", "math/bits.deBruijn64tab"], apart := false, laid := [("math/bits.deBruijn32tab", laid_math_bits_deBruijn32tab), ("math/bits.deBruijn64tab", laid_math_bits_deBruijn64tab), ("internal/strconv.uint64pow10", laid_internal_strconv_uint64pow10)] }
def FnStateOfSaid : Prop := fnStateOfRow.holds Tryd.pinned (OpenSpec.ofChange fnStateOfSpec)

/-- ITS FALSE NEIGHBOUR: 'it returns false'. Refute it at one input. -/
def fnStateOfWrong : ChangeSpec := { name := "fnStateOf", fn := fun _ => fun
  | [d] => { results := [.lit (.bool false)], args := [d] }
  | _ => none }
def FnStateOfWrongFalsely : Prop := fnStateOfRow.holds Tryd.pinned (OpenSpec.ofChange fnStateOfWrong)

/-- 'laws.FnExactNetText': WHATEVER THE INPUT: true; the input reads as it did. -/
def fnExactNetTextSpec : ChangeSpec := { name := "fnExactNetText", fn := fun _ => fun
  | [d] => { results := [.lit (.bool true)], args := [d] }
  | _ => none }
def fnExactNetTextRow : OpenClaim := { program := "ytlahlfjhfmldaaadoor", sum := "99b989c6df0043b9616027117d442d55544836af29325013245a96e0b8be9445", func := "loop.example/powercontrol/laws.FnExactNetText", spec := "fnExactNetText", inPlace := ["internal/abi.NoEscape"], recurses := true, named := ["internal/strconv.uint64pow10", "math/bits.deBruijn32tab", "math/bits.deBruijn64tab"], apart := false, laid := [("math/bits.deBruijn32tab", laid_math_bits_deBruijn32tab), ("math/bits.deBruijn64tab", laid_math_bits_deBruijn64tab), ("internal/strconv.uint64pow10", laid_internal_strconv_uint64pow10)] }
def FnExactNetTextSaid : Prop := fnExactNetTextRow.holds Tryd.pinned (OpenSpec.ofChange fnExactNetTextSpec)

/-- ITS FALSE NEIGHBOUR: 'it returns false'. Refute it at one input. -/
def fnExactNetTextWrong : ChangeSpec := { name := "fnExactNetText", fn := fun _ => fun
  | [d] => { results := [.lit (.bool false)], args := [d] }
  | _ => none }
def FnExactNetTextWrongFalsely : Prop := fnExactNetTextRow.holds Tryd.pinned (OpenSpec.ofChange fnExactNetTextWrong)

/-- 'laws.FnStateValid': WHATEVER THE INPUT: true; the input reads as it did. -/
def fnStateValidSpec : ChangeSpec := { name := "fnStateValid", fn := fun _ => fun
  | [d] => { results := [.lit (.bool true)], args := [d] }
  | _ => none }
def fnStateValidRow : OpenClaim := { program := "ytlahlfjhfmldaaadoor", sum := "99b989c6df0043b9616027117d442d55544836af29325013245a96e0b8be9445", func := "loop.example/powercontrol/laws.FnStateValid", spec := "fnStateValid", inPlace := ["internal/abi.NoEscape"], named := ["internal/strconv.uint64pow10", "math/bits.deBruijn32tab", "math/bits.deBruijn64tab"], apart := false, laid := [("math/bits.deBruijn32tab", laid_math_bits_deBruijn32tab), ("math/bits.deBruijn64tab", laid_math_bits_deBruijn64tab), ("internal/strconv.uint64pow10", laid_internal_strconv_uint64pow10)] }
def FnStateValidSaid : Prop := fnStateValidRow.holds Tryd.pinned (OpenSpec.ofChange fnStateValidSpec)

/-- ITS FALSE NEIGHBOUR: 'it returns false'. Refute it at one input. -/
def fnStateValidWrong : ChangeSpec := { name := "fnStateValid", fn := fun _ => fun
  | [d] => { results := [.lit (.bool false)], args := [d] }
  | _ => none }
def FnStateValidWrongFalsely : Prop := fnStateValidRow.holds Tryd.pinned (OpenSpec.ofChange fnStateValidWrong)

/-- 'laws.FnLineBetween': WHATEVER THE INPUT: true; the input reads as it did. -/
def fnLineBetweenSpec : ChangeSpec := { name := "fnLineBetween", fn := fun _ => fun
  | [d] => { results := [.lit (.bool true)], args := [d] }
  | _ => none }
def fnLineBetweenRow : OpenClaim := { program := "ytlahlfjhfmldaaadoor", sum := "99b989c6df0043b9616027117d442d55544836af29325013245a96e0b8be9445", func := "loop.example/powercontrol/laws.FnLineBetween", spec := "fnLineBetween", inPlace := ["internal/abi.NoEscape"], named := ["internal/strconv.uint64pow10", "math/bits.deBruijn32tab", "math/bits.deBruijn64tab"], apart := false, laid := [("math/bits.deBruijn32tab", laid_math_bits_deBruijn32tab), ("math/bits.deBruijn64tab", laid_math_bits_deBruijn64tab), ("internal/strconv.uint64pow10", laid_internal_strconv_uint64pow10)] }
def FnLineBetweenSaid : Prop := fnLineBetweenRow.holds Tryd.pinned (OpenSpec.ofChange fnLineBetweenSpec)

/-- ITS FALSE NEIGHBOUR: 'it returns false'. Refute it at one input. -/
def fnLineBetweenWrong : ChangeSpec := { name := "fnLineBetween", fn := fun _ => fun
  | [d] => { results := [.lit (.bool false)], args := [d] }
  | _ => none }
def FnLineBetweenWrongFalsely : Prop := fnLineBetweenRow.holds Tryd.pinned (OpenSpec.ofChange fnLineBetweenWrong)

/-- 'laws.FnOtherEnd': WHATEVER THE INPUT: true; the input reads as it did. -/
def fnOtherEndSpec : ChangeSpec := { name := "fnOtherEnd", fn := fun _ => fun
  | [d] => { results := [.lit (.bool true)], args := [d] }
  | _ => none }
def fnOtherEndRow : OpenClaim := { program := "ytlahlfjhfmldaaadoor", sum := "99b989c6df0043b9616027117d442d55544836af29325013245a96e0b8be9445", func := "loop.example/powercontrol/laws.FnOtherEnd", spec := "fnOtherEnd", inPlace := ["internal/abi.NoEscape"], named := ["internal/strconv.uint64pow10", "math/bits.deBruijn32tab", "math/bits.deBruijn64tab"], apart := false, laid := [("math/bits.deBruijn32tab", laid_math_bits_deBruijn32tab), ("math/bits.deBruijn64tab", laid_math_bits_deBruijn64tab), ("internal/strconv.uint64pow10", laid_internal_strconv_uint64pow10)] }
def FnOtherEndSaid : Prop := fnOtherEndRow.holds Tryd.pinned (OpenSpec.ofChange fnOtherEndSpec)

/-- ITS FALSE NEIGHBOUR: 'it returns false'. Refute it at one input. -/
def fnOtherEndWrong : ChangeSpec := { name := "fnOtherEnd", fn := fun _ => fun
  | [d] => { results := [.lit (.bool false)], args := [d] }
  | _ => none }
def FnOtherEndWrongFalsely : Prop := fnOtherEndRow.holds Tryd.pinned (OpenSpec.ofChange fnOtherEndWrong)

/-- 'laws.FnLinesAt': WHATEVER THE INPUT: true; the input reads as it did. -/
def fnLinesAtSpec : ChangeSpec := { name := "fnLinesAt", fn := fun _ => fun
  | [d] => { results := [.lit (.bool true)], args := [d] }
  | _ => none }
def fnLinesAtRow : OpenClaim := { program := "ytlahlfjhfmldaaadoor", sum := "99b989c6df0043b9616027117d442d55544836af29325013245a96e0b8be9445", func := "loop.example/powercontrol/laws.FnLinesAt", spec := "fnLinesAt", inPlace := ["internal/abi.NoEscape"], named := ["internal/strconv.uint64pow10", "math/bits.deBruijn32tab", "math/bits.deBruijn64tab"], apart := false, laid := [("math/bits.deBruijn32tab", laid_math_bits_deBruijn32tab), ("math/bits.deBruijn64tab", laid_math_bits_deBruijn64tab), ("internal/strconv.uint64pow10", laid_internal_strconv_uint64pow10)] }
def FnLinesAtSaid : Prop := fnLinesAtRow.holds Tryd.pinned (OpenSpec.ofChange fnLinesAtSpec)

/-- ITS FALSE NEIGHBOUR: 'it returns false'. Refute it at one input. -/
def fnLinesAtWrong : ChangeSpec := { name := "fnLinesAt", fn := fun _ => fun
  | [d] => { results := [.lit (.bool false)], args := [d] }
  | _ => none }
def FnLinesAtWrongFalsely : Prop := fnLinesAtRow.holds Tryd.pinned (OpenSpec.ofChange fnLinesAtWrong)

/-- 'laws.FnBusesValid': WHATEVER THE INPUT: true; the input reads as it did. -/
def fnBusesValidSpec : ChangeSpec := { name := "fnBusesValid", fn := fun _ => fun
  | [d] => { results := [.lit (.bool true)], args := [d] }
  | _ => none }
def fnBusesValidRow : OpenClaim := { program := "ytlahlfjhfmldaaadoor", sum := "99b989c6df0043b9616027117d442d55544836af29325013245a96e0b8be9445", func := "loop.example/powercontrol/laws.FnBusesValid", spec := "fnBusesValid", inPlace := ["internal/abi.NoEscape"], named := ["internal/strconv.uint64pow10", "math/bits.deBruijn32tab", "math/bits.deBruijn64tab"], apart := false, laid := [("math/bits.deBruijn32tab", laid_math_bits_deBruijn32tab), ("math/bits.deBruijn64tab", laid_math_bits_deBruijn64tab), ("internal/strconv.uint64pow10", laid_internal_strconv_uint64pow10)] }
def FnBusesValidSaid : Prop := fnBusesValidRow.holds Tryd.pinned (OpenSpec.ofChange fnBusesValidSpec)

/-- ITS FALSE NEIGHBOUR: 'it returns false'. Refute it at one input. -/
def fnBusesValidWrong : ChangeSpec := { name := "fnBusesValid", fn := fun _ => fun
  | [d] => { results := [.lit (.bool false)], args := [d] }
  | _ => none }
def FnBusesValidWrongFalsely : Prop := fnBusesValidRow.holds Tryd.pinned (OpenSpec.ofChange fnBusesValidWrong)

/-- 'laws.FnStateNumber': WHATEVER THE INPUT: true; the input reads as it did. -/
def fnStateNumberSpec : ChangeSpec := { name := "fnStateNumber", fn := fun _ => fun
  | [d] => { results := [.lit (.bool true)], args := [d] }
  | _ => none }
def fnStateNumberRow : OpenClaim := { program := "ytlahlfjhfmldaaadoor", sum := "99b989c6df0043b9616027117d442d55544836af29325013245a96e0b8be9445", func := "loop.example/powercontrol/laws.FnStateNumber", spec := "fnStateNumber", inPlace := ["internal/abi.NoEscape"], named := ["internal/strconv.uint64pow10", "math/bits.deBruijn32tab", "math/bits.deBruijn64tab"], apart := false, laid := [("math/bits.deBruijn32tab", laid_math_bits_deBruijn32tab), ("math/bits.deBruijn64tab", laid_math_bits_deBruijn64tab), ("internal/strconv.uint64pow10", laid_internal_strconv_uint64pow10)] }
def FnStateNumberSaid : Prop := fnStateNumberRow.holds Tryd.pinned (OpenSpec.ofChange fnStateNumberSpec)

/-- ITS FALSE NEIGHBOUR: 'it returns false'. Refute it at one input. -/
def fnStateNumberWrong : ChangeSpec := { name := "fnStateNumber", fn := fun _ => fun
  | [d] => { results := [.lit (.bool false)], args := [d] }
  | _ => none }
def FnStateNumberWrongFalsely : Prop := fnStateNumberRow.holds Tryd.pinned (OpenSpec.ofChange fnStateNumberWrong)

/- THE SECOND FORM. 'bulk': how many values and letters a reading holds, each counted each time it is reached (what is shared counts as often as it is met; a slice's spare places count too). A statement '..UptoSaid' is the law's where the arguments, and the package variables that the reading takes, are together of bulk at most 1048576: NARROWER than '..Said'. Prove '..Said' where nothing that the law and all that it calls make is longer than what came in: it says more and counts as full. Else prove '..UptoSaid'. A law counts once. -/
mutual
def uptoBulk {H : Type} : DataW H → Nat
  | .lit (.string bytes) => bytes.length + 1
  | .lit _ => 1
  | .nil => 1
  | .ptr d => uptoBulk d + 1
  | .slice elems spare => uptoBulkAll elems + uptoBulkAll spare + 1
  | .agg parts => uptoBulkAll parts + 1
  | .iface _ d => uptoBulk d + 1
  | .map entries => uptoBulkEntries entries + 1
  | .held _ => 1
def uptoBulkAll {H : Type} : List (DataW H) → Nat
  | [] => 0
  | d :: r => uptoBulk d + uptoBulkAll r
def uptoBulkEntries {H : Type} : List (Lit × DataW H) → Nat
  | [] => 0
  | x :: r => uptoBulkEntry x + uptoBulkEntries r
def uptoBulkEntry {H : Type} : Lit × DataW H → Nat
  | (.string bytes, d) => bytes.length + uptoBulk d + 1
  | (_, d) => uptoBulk d + 1
 end
def uptoSmall : (H : Type) → List (DataW H) → Bool := fun _ ds => decide (uptoBulkAll ds ≤ 1048576)
def OpenSpec.upto (s : _root_.Go.ChangeSpec) : _root_.Go.OpenSpec := { _root_.Go.OpenSpec.ofChange s with cond := some uptoSmall }

/-- 'laws.FnNetValid', WHERE WHAT IT READS IS OF BULK AT MOST 1048576: true; the input reads as it did. -/
def fnNetValidUptoRow : OpenClaim := { program := "ytlahlfjhfmldaaadoor", sum := "99b989c6df0043b9616027117d442d55544836af29325013245a96e0b8be9445", func := "loop.example/powercontrol/laws.FnNetValid", spec := "fnNetValid", inPlace := ["internal/abi.NoEscape"], named := ["internal/strconv.uint64pow10", "math/bits.deBruijn32tab", "math/bits.deBruijn64tab"], apart := false, laid := [("math/bits.deBruijn32tab", laid_math_bits_deBruijn32tab), ("math/bits.deBruijn64tab", laid_math_bits_deBruijn64tab), ("internal/strconv.uint64pow10", laid_internal_strconv_uint64pow10)], narrowed := true }
def FnNetValidUptoSaid : Prop := fnNetValidUptoRow.holds Tryd.pinned (OpenSpec.upto fnNetValidSpec)

/-- 'laws.FnStateOf', WHERE WHAT IT READS IS OF BULK AT MOST 1048576: true; the input reads as it did. -/
def fnStateOfUptoRow : OpenClaim := { program := "ytlahlfjhfmldaaadoor", sum := "99b989c6df0043b9616027117d442d55544836af29325013245a96e0b8be9445", func := "loop.example/powercontrol/laws.FnStateOf", spec := "fnStateOf", inPlace := ["internal/abi.NoEscape"], named := ["internal/strconv.uint64pow10", "math/bits.deBruijn32tab", "math/bits.deBruijn64tab"], apart := false, laid := [("math/bits.deBruijn32tab", laid_math_bits_deBruijn32tab), ("math/bits.deBruijn64tab", laid_math_bits_deBruijn64tab), ("internal/strconv.uint64pow10", laid_internal_strconv_uint64pow10)], narrowed := true }
def FnStateOfUptoSaid : Prop := fnStateOfUptoRow.holds Tryd.pinned (OpenSpec.upto fnStateOfSpec)

/-- 'laws.FnExactNetText', WHERE WHAT IT READS IS OF BULK AT MOST 1048576: true; the input reads as it did. -/
def fnExactNetTextUptoRow : OpenClaim := { program := "ytlahlfjhfmldaaadoor", sum := "99b989c6df0043b9616027117d442d55544836af29325013245a96e0b8be9445", func := "loop.example/powercontrol/laws.FnExactNetText", spec := "fnExactNetText", inPlace := ["internal/abi.NoEscape"], recurses := true, named := ["internal/strconv.uint64pow10", "math/bits.deBruijn32tab", "math/bits.deBruijn64tab"], apart := false, laid := [("math/bits.deBruijn32tab", laid_math_bits_deBruijn32tab), ("math/bits.deBruijn64tab", laid_math_bits_deBruijn64tab), ("internal/strconv.uint64pow10", laid_internal_strconv_uint64pow10)], narrowed := true }
def FnExactNetTextUptoSaid : Prop := fnExactNetTextUptoRow.holds Tryd.pinned (OpenSpec.upto fnExactNetTextSpec)

/-- 'laws.FnStateValid', WHERE WHAT IT READS IS OF BULK AT MOST 1048576: true; the input reads as it did. -/
def fnStateValidUptoRow : OpenClaim := { program := "ytlahlfjhfmldaaadoor", sum := "99b989c6df0043b9616027117d442d55544836af29325013245a96e0b8be9445", func := "loop.example/powercontrol/laws.FnStateValid", spec := "fnStateValid", inPlace := ["internal/abi.NoEscape"], named := ["internal/strconv.uint64pow10", "math/bits.deBruijn32tab", "math/bits.deBruijn64tab"], apart := false, laid := [("math/bits.deBruijn32tab", laid_math_bits_deBruijn32tab), ("math/bits.deBruijn64tab", laid_math_bits_deBruijn64tab), ("internal/strconv.uint64pow10", laid_internal_strconv_uint64pow10)], narrowed := true }
def FnStateValidUptoSaid : Prop := fnStateValidUptoRow.holds Tryd.pinned (OpenSpec.upto fnStateValidSpec)

/-- 'laws.FnLineBetween', WHERE WHAT IT READS IS OF BULK AT MOST 1048576: true; the input reads as it did. -/
def fnLineBetweenUptoRow : OpenClaim := { program := "ytlahlfjhfmldaaadoor", sum := "99b989c6df0043b9616027117d442d55544836af29325013245a96e0b8be9445", func := "loop.example/powercontrol/laws.FnLineBetween", spec := "fnLineBetween", inPlace := ["internal/abi.NoEscape"], named := ["internal/strconv.uint64pow10", "math/bits.deBruijn32tab", "math/bits.deBruijn64tab"], apart := false, laid := [("math/bits.deBruijn32tab", laid_math_bits_deBruijn32tab), ("math/bits.deBruijn64tab", laid_math_bits_deBruijn64tab), ("internal/strconv.uint64pow10", laid_internal_strconv_uint64pow10)], narrowed := true }
def FnLineBetweenUptoSaid : Prop := fnLineBetweenUptoRow.holds Tryd.pinned (OpenSpec.upto fnLineBetweenSpec)

/-- 'laws.FnOtherEnd', WHERE WHAT IT READS IS OF BULK AT MOST 1048576: true; the input reads as it did. -/
def fnOtherEndUptoRow : OpenClaim := { program := "ytlahlfjhfmldaaadoor", sum := "99b989c6df0043b9616027117d442d55544836af29325013245a96e0b8be9445", func := "loop.example/powercontrol/laws.FnOtherEnd", spec := "fnOtherEnd", inPlace := ["internal/abi.NoEscape"], named := ["internal/strconv.uint64pow10", "math/bits.deBruijn32tab", "math/bits.deBruijn64tab"], apart := false, laid := [("math/bits.deBruijn32tab", laid_math_bits_deBruijn32tab), ("math/bits.deBruijn64tab", laid_math_bits_deBruijn64tab), ("internal/strconv.uint64pow10", laid_internal_strconv_uint64pow10)], narrowed := true }
def FnOtherEndUptoSaid : Prop := fnOtherEndUptoRow.holds Tryd.pinned (OpenSpec.upto fnOtherEndSpec)

/-- 'laws.FnLinesAt', WHERE WHAT IT READS IS OF BULK AT MOST 1048576: true; the input reads as it did. -/
def fnLinesAtUptoRow : OpenClaim := { program := "ytlahlfjhfmldaaadoor", sum := "99b989c6df0043b9616027117d442d55544836af29325013245a96e0b8be9445", func := "loop.example/powercontrol/laws.FnLinesAt", spec := "fnLinesAt", inPlace := ["internal/abi.NoEscape"], named := ["internal/strconv.uint64pow10", "math/bits.deBruijn32tab", "math/bits.deBruijn64tab"], apart := false, laid := [("math/bits.deBruijn32tab", laid_math_bits_deBruijn32tab), ("math/bits.deBruijn64tab", laid_math_bits_deBruijn64tab), ("internal/strconv.uint64pow10", laid_internal_strconv_uint64pow10)], narrowed := true }
def FnLinesAtUptoSaid : Prop := fnLinesAtUptoRow.holds Tryd.pinned (OpenSpec.upto fnLinesAtSpec)

/-- 'laws.FnBusesValid', WHERE WHAT IT READS IS OF BULK AT MOST 1048576: true; the input reads as it did. -/
def fnBusesValidUptoRow : OpenClaim := { program := "ytlahlfjhfmldaaadoor", sum := "99b989c6df0043b9616027117d442d55544836af29325013245a96e0b8be9445", func := "loop.example/powercontrol/laws.FnBusesValid", spec := "fnBusesValid", inPlace := ["internal/abi.NoEscape"], named := ["internal/strconv.uint64pow10", "math/bits.deBruijn32tab", "math/bits.deBruijn64tab"], apart := false, laid := [("math/bits.deBruijn32tab", laid_math_bits_deBruijn32tab), ("math/bits.deBruijn64tab", laid_math_bits_deBruijn64tab), ("internal/strconv.uint64pow10", laid_internal_strconv_uint64pow10)], narrowed := true }
def FnBusesValidUptoSaid : Prop := fnBusesValidUptoRow.holds Tryd.pinned (OpenSpec.upto fnBusesValidSpec)

/-- 'laws.FnStateNumber', WHERE WHAT IT READS IS OF BULK AT MOST 1048576: true; the input reads as it did. -/
def fnStateNumberUptoRow : OpenClaim := { program := "ytlahlfjhfmldaaadoor", sum := "99b989c6df0043b9616027117d442d55544836af29325013245a96e0b8be9445", func := "loop.example/powercontrol/laws.FnStateNumber", spec := "fnStateNumber", inPlace := ["internal/abi.NoEscape"], named := ["internal/strconv.uint64pow10", "math/bits.deBruijn32tab", "math/bits.deBruijn64tab"], apart := false, laid := [("math/bits.deBruijn32tab", laid_math_bits_deBruijn32tab), ("math/bits.deBruijn64tab", laid_math_bits_deBruijn64tab), ("internal/strconv.uint64pow10", laid_internal_strconv_uint64pow10)], narrowed := true }
def FnStateNumberUptoSaid : Prop := fnStateNumberUptoRow.holds Tryd.pinned (OpenSpec.upto fnStateNumberSpec)

end Rows
end Go.Proofs.YtlahlfjhfmldaaaDoor
