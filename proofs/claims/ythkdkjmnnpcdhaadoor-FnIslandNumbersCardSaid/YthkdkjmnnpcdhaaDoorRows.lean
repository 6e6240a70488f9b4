/-
  NARROWER THAN 'FOR EVERY INPUT', by the rows' own cells (each row's printed sentence says how): FnChangeAll: laid · FnChanges: laid · FnSwitchLine: laid · FnSameIsland: laid · FnReached: laid · FnIslandsOf: laid · FnIslandNumbers: laid · FnHasCycle: laid.
  DERIVED. THE GIVEN ROWS OF THIS SEAT. 8 by the template 'for every input the law returns true; each argument reads behind the call as it read before'; 0 by the template 'total and deterministic' (their statements: YthkdkjmnnpcdhaaDoorTotals.lean).
  GIVEN WITH THE SEED: the statements are not yours to turn. If you find one false, say at which input.
  Laid BY PROGRAM, IN A SANDBOX (cutbox-rows.mjs): the forced cells as the released guide's own fill.sh prints them over the translation b6ff906c9de4309d… (all of the seat's roots in one cut). By AI agents, Wed Nov 11 2026. No macro, syntax, notation, axiom, sorry.
-/
import Derived.Test.YthkdkjmnnpcdhaaDoorChecked
import GoSem.Claim
import GoSem.ClaimJoined
import GoSem.ClaimMapViews
import Derived.JoinedTies
import Derived.KernelRfl
namespace Go.Proofs.YthkdkjmnnpcdhaaDoor
/- THE CELL 'sum', in the pinned program and in every row, IS THE sha256 OF THE DUMP (.gsa) THAT YthkdkjmnnpcdhaaDoorProg.lean LOADS. Nothing in Lean hashes anything: it is a label: what it is worth is what the hold of that sum in a sandbox is worth. -/
noncomputable def Tryd.pinned : Pinned := { name := "ythkdkjmnnpcdhaadoor", sum := "b6ff906c9de4309d91d4195ce9373771a245532e8ef571859cb2675ec0d5d329", checked := Tryd.checked }
namespace Rows
def none {H : Type} : Left H := { results := [], args := [] }

/- WHAT THE LISTED PACKAGE-LEVEL VARIABLES READ AS WHEN THE CALL BEGINS. Each datum BY PROGRAM (the guide's laid-datum.mjs) off the statement by which the dump's own 'gosem.cut.vars' lays the variable. In a bare row this is a premise. The card (YthkdkjmnnpcdhaaDoorCards.lean) ties it to the program's text. -/
def laid_math_bits_deBruijn32tab {H : Type} : DataW H := .agg [.lit (.int .u8 0), .lit (.int .u8 1), .lit (.int .u8 28), .lit (.int .u8 2), .lit (.int .u8 29), .lit (.int .u8 14), .lit (.int .u8 24), .lit (.int .u8 3), .lit (.int .u8 30), .lit (.int .u8 22), .lit (.int .u8 20), .lit (.int .u8 15), .lit (.int .u8 25), .lit (.int .u8 17), .lit (.int .u8 4), .lit (.int .u8 8), .lit (.int .u8 31), .lit (.int .u8 27), .lit (.int .u8 13), .lit (.int .u8 23), .lit (.int .u8 21), .lit (.int .u8 19), .lit (.int .u8 16), .lit (.int .u8 7), .lit (.int .u8 26), .lit (.int .u8 12), .lit (.int .u8 18), .lit (.int .u8 6), .lit (.int .u8 11), .lit (.int .u8 5), .lit (.int .u8 10), .lit (.int .u8 9)]
def laid_math_bits_deBruijn64tab {H : Type} : DataW H := .agg [.lit (.int .u8 0), .lit (.int .u8 1), .lit (.int .u8 56), .lit (.int .u8 2), .lit (.int .u8 57), .lit (.int .u8 49), .lit (.int .u8 28), .lit (.int .u8 3), .lit (.int .u8 61), .lit (.int .u8 58), .lit (.int .u8 42), .lit (.int .u8 50), .lit (.int .u8 38), .lit (.int .u8 29), .lit (.int .u8 17), .lit (.int .u8 4), .lit (.int .u8 62), .lit (.int .u8 47), .lit (.int .u8 59), .lit (.int .u8 36), .lit (.int .u8 45), .lit (.int .u8 43), .lit (.int .u8 51), .lit (.int .u8 22), .lit (.int .u8 53), .lit (.int .u8 39), .lit (.int .u8 33), .lit (.int .u8 30), .lit (.int .u8 24), .lit (.int .u8 18), .lit (.int .u8 12), .lit (.int .u8 5), .lit (.int .u8 63), .lit (.int .u8 55), .lit (.int .u8 48), .lit (.int .u8 27), .lit (.int .u8 60), .lit (.int .u8 41), .lit (.int .u8 37), .lit (.int .u8 16), .lit (.int .u8 46), .lit (.int .u8 35), .lit (.int .u8 44), .lit (.int .u8 21), .lit (.int .u8 52), .lit (.int .u8 32), .lit (.int .u8 23), .lit (.int .u8 11), .lit (.int .u8 54), .lit (.int .u8 26), .lit (.int .u8 40), .lit (.int .u8 15), .lit (.int .u8 34), .lit (.int .u8 20), .lit (.int .u8 31), .lit (.int .u8 10), .lit (.int .u8 25), .lit (.int .u8 14), .lit (.int .u8 19), .lit (.int .u8 9), .lit (.int .u8 13), .lit (.int .u8 8), .lit (.int .u8 7), .lit (.int .u8 6)]
def laid_internal_strconv_uint64pow10 {H : Type} : DataW H := .agg [.lit (.int .u64 1), .lit (.int .u64 10), .lit (.int .u64 100), .lit (.int .u64 1000), .lit (.int .u64 10000), .lit (.int .u64 100000), .lit (.int .u64 1000000), .lit (.int .u64 10000000), .lit (.int .u64 100000000), .lit (.int .u64 1000000000), .lit (.int .u64 10000000000), .lit (.int .u64 100000000000), .lit (.int .u64 1000000000000), .lit (.int .u64 10000000000000), .lit (.int .u64 100000000000000), .lit (.int .u64 1000000000000000), .lit (.int .u64 10000000000000000), .lit (.int .u64 100000000000000000), .lit (.int .u64 1000000000000000000), .lit (.int .u64 10000000000000000000)]

/-- 'laws.FnChangeAll': WHATEVER THE INPUT: true; the input reads as it did. -/
def fnChangeAllSpec : ChangeSpec := { name := "fnChangeAll", fn := fun _ => fun
  | [d] => { results := [.lit (.bool true)], args := [d] }
  | _ => none }
def fnChangeAllRow : OpenClaim := { program := "ythkdkjmnnpcdhaadoor", sum := "b6ff906c9de4309d91d4195ce9373771a245532e8ef571859cb2675ec0d5d329", func := "loop.example/powercontrol/laws.FnChangeAll", spec := "fnChangeAll", inPlace := ["internal/abi.NoEscape"], named := ["internal/strconv.uint64pow10", "math/bits.deBruijn32tab", "math/bits.deBruijn64tab"], apart := false, laid := [("math/bits.deBruijn32tab", laid_math_bits_deBruijn32tab), ("math/bits.deBruijn64tab", laid_math_bits_deBruijn64tab), ("internal/strconv.uint64pow10", laid_internal_strconv_uint64pow10)] }
def FnChangeAllSaid : Prop := fnChangeAllRow.holds Tryd.pinned (OpenSpec.ofChange fnChangeAllSpec)

/-- ITS FALSE NEIGHBOUR: 'it returns false'. Refute it at one input. -/
def fnChangeAllWrong : ChangeSpec := { name := "fnChangeAll", fn := fun _ => fun
  | [d] => { results := [.lit (.bool false)], args := [d] }
  | _ => none }
def FnChangeAllWrongFalsely : Prop := fnChangeAllRow.holds Tryd.pinned (OpenSpec.ofChange fnChangeAllWrong)

/-- 'laws.FnChanges': WHATEVER THE INPUT: true; the input reads as it did. -/
def fnChangesSpec : ChangeSpec := { name := "fnChanges", fn := fun _ => fun
  | [d] => { results := [.lit (.bool true)], args := [d] }
  | _ => none }
def fnChangesRow : OpenClaim := { program := "ythkdkjmnnpcdhaadoor", sum := "b6ff906c9de4309d91d4195ce9373771a245532e8ef571859cb2675ec0d5d329", func := "loop.example/powercontrol/laws.FnChanges", spec := "fnChanges", inPlace := ["internal/abi.NoEscape"], named := ["internal/strconv.uint64pow10", "math/bits.deBruijn32tab", "math/bits.deBruijn64tab"], apart := false, laid := [("math/bits.deBruijn32tab", laid_math_bits_deBruijn32tab), ("math/bits.deBruijn64tab", laid_math_bits_deBruijn64tab), ("internal/strconv.uint64pow10", laid_internal_strconv_uint64pow10)] }
def FnChangesSaid : Prop := fnChangesRow.holds Tryd.pinned (OpenSpec.ofChange fnChangesSpec)

/-- ITS FALSE NEIGHBOUR: 'it returns false'. Refute it at one input. -/
def fnChangesWrong : ChangeSpec := { name := "fnChanges", fn := fun _ => fun
  | [d] => { results := [.lit (.bool false)], args := [d] }
  | _ => none }
def FnChangesWrongFalsely : Prop := fnChangesRow.holds Tryd.pinned (OpenSpec.ofChange fnChangesWrong)

/-- 'laws.FnSwitchLine': WHATEVER THE INPUT: true; the input reads as it did. -/
def fnSwitchLineSpec : ChangeSpec := { name := "fnSwitchLine", fn := fun _ => fun
  | [d] => { results := [.lit (.bool true)], args := [d] }
  | _ => none }
def fnSwitchLineRow : OpenClaim := { program := "ythkdkjmnnpcdhaadoor", sum := "b6ff906c9de4309d91d4195ce9373771a245532e8ef571859cb2675ec0d5d329", func := "loop.example/powercontrol/laws.FnSwitchLine", spec := "fnSwitchLine", inPlace := ["internal/abi.NoEscape"], named := ["internal/strconv.uint64pow10", "math/bits.deBruijn32tab", "math/bits.deBruijn64tab"], apart := false, laid := [("math/bits.deBruijn32tab", laid_math_bits_deBruijn32tab), ("math/bits.deBruijn64tab", laid_math_bits_deBruijn64tab), ("internal/strconv.uint64pow10", laid_internal_strconv_uint64pow10)] }
def FnSwitchLineSaid : Prop := fnSwitchLineRow.holds Tryd.pinned (OpenSpec.ofChange fnSwitchLineSpec)

/-- ITS FALSE NEIGHBOUR: 'it returns false'. Refute it at one input. -/
def fnSwitchLineWrong : ChangeSpec := { name := "fnSwitchLine", fn := fun _ => fun
  | [d] => { results := [.lit (.bool false)], args := [d] }
  | _ => none }
def FnSwitchLineWrongFalsely : Prop := fnSwitchLineRow.holds Tryd.pinned (OpenSpec.ofChange fnSwitchLineWrong)

/-- 'laws.FnSameIsland': WHATEVER THE INPUT: true; the input reads as it did. -/
def fnSameIslandSpec : ChangeSpec := { name := "fnSameIsland", fn := fun _ => fun
  | [d] => { results := [.lit (.bool true)], args := [d] }
  | _ => none }
def fnSameIslandRow : OpenClaim := { program := "ythkdkjmnnpcdhaadoor", sum := "b6ff906c9de4309d91d4195ce9373771a245532e8ef571859cb2675ec0d5d329", func := "loop.example/powercontrol/laws.FnSameIsland", spec := "fnSameIsland", inPlace := ["internal/abi.NoEscape"], named := ["internal/strconv.uint64pow10", "math/bits.deBruijn32tab", "math/bits.deBruijn64tab"], apart := false, laid := [("math/bits.deBruijn32tab", laid_math_bits_deBruijn32tab), ("math/bits.deBruijn64tab", laid_math_bits_deBruijn64tab), ("internal/strconv.uint64pow10", laid_internal_strconv_uint64pow10)] }
def FnSameIslandSaid : Prop := fnSameIslandRow.holds Tryd.pinned (OpenSpec.ofChange fnSameIslandSpec)

/-- ITS FALSE NEIGHBOUR: 'it returns false'. Refute it at one input. -/
def fnSameIslandWrong : ChangeSpec := { name := "fnSameIsland", fn := fun _ => fun
  | [d] => { results := [.lit (.bool false)], args := [d] }
  | _ => none }
def FnSameIslandWrongFalsely : Prop := fnSameIslandRow.holds Tryd.pinned (OpenSpec.ofChange fnSameIslandWrong)

/-- 'laws.FnReached': WHATEVER THE INPUT: true; the input reads as it did. -/
def fnReachedSpec : ChangeSpec := { name := "fnReached", fn := fun _ => fun
  | [d] => { results := [.lit (.bool true)], args := [d] }
  | _ => none }
def fnReachedRow : OpenClaim := { program := "ythkdkjmnnpcdhaadoor", sum := "b6ff906c9de4309d91d4195ce9373771a245532e8ef571859cb2675ec0d5d329", func := "loop.example/powercontrol/laws.FnReached", spec := "fnReached", inPlace := ["internal/abi.NoEscape"], named := ["internal/strconv.uint64pow10", "math/bits.deBruijn32tab", "math/bits.deBruijn64tab"], apart := false, laid := [("math/bits.deBruijn32tab", laid_math_bits_deBruijn32tab), ("math/bits.deBruijn64tab", laid_math_bits_deBruijn64tab), ("internal/strconv.uint64pow10", laid_internal_strconv_uint64pow10)] }
def FnReachedSaid : Prop := fnReachedRow.holds Tryd.pinned (OpenSpec.ofChange fnReachedSpec)

/-- ITS FALSE NEIGHBOUR: 'it returns false'. Refute it at one input. -/
def fnReachedWrong : ChangeSpec := { name := "fnReached", fn := fun _ => fun
  | [d] => { results := [.lit (.bool false)], args := [d] }
  | _ => none }
def FnReachedWrongFalsely : Prop := fnReachedRow.holds Tryd.pinned (OpenSpec.ofChange fnReachedWrong)

/-- 'laws.FnIslandsOf': WHATEVER THE INPUT: true; the input reads as it did. -/
def fnIslandsOfSpec : ChangeSpec := { name := "fnIslandsOf", fn := fun _ => fun
  | [d] => { results := [.lit (.bool true)], args := [d] }
  | _ => none }
def fnIslandsOfRow : OpenClaim := { program := "ythkdkjmnnpcdhaadoor", sum := "b6ff906c9de4309d91d4195ce9373771a245532e8ef571859cb2675ec0d5d329", func := "loop.example/powercontrol/laws.FnIslandsOf", spec := "fnIslandsOf", inPlace := ["internal/abi.NoEscape"], named := ["internal/strconv.uint64pow10", "math/bits.deBruijn32tab", "math/bits.deBruijn64tab"], apart := false, laid := [("math/bits.deBruijn32tab", laid_math_bits_deBruijn32tab), ("math/bits.deBruijn64tab", laid_math_bits_deBruijn64tab), ("internal/strconv.uint64pow10", laid_internal_strconv_uint64pow10)] }
def FnIslandsOfSaid : Prop := fnIslandsOfRow.holds Tryd.pinned (OpenSpec.ofChange fnIslandsOfSpec)

/-- ITS FALSE NEIGHBOUR: 'it returns false'. Refute it at one input. -/
def fnIslandsOfWrong : ChangeSpec := { name := "fnIslandsOf", fn := fun _ => fun
  | [d] => { results := [.lit (.bool false)], args := [d] }
  | _ => none }
def FnIslandsOfWrongFalsely : Prop := fnIslandsOfRow.holds Tryd.pinned (OpenSpec.ofChange fnIslandsOfWrong)

/-- 'laws.FnIslandNumbers': WHATEVER THE INPUT: true; the input reads as it did. -/
def fnIslandNumbersSpec : ChangeSpec := { name := "fnIslandNumbers", fn := fun _ => fun
  | [d] => { results := [.lit (.bool true)], args := [d] }
  | _ => none }
def fnIslandNumbersRow : OpenClaim := { program := "ythkdkjmnnpcdhaadoor", sum := "b6ff906c9de4309d91d4195ce9373771a245532e8ef571859cb2675ec0d5d329", func := "loop.example/powercontrol/laws.FnIslandNumbers", spec := "fnIslandNumbers", inPlace := ["internal/abi.NoEscape"], named := ["internal/strconv.uint64pow10", "math/bits.deBruijn32tab", "math/bits.deBruijn64tab"], apart := false, laid := [("math/bits.deBruijn32tab", laid_math_bits_deBruijn32tab), ("math/bits.deBruijn64tab", laid_math_bits_deBruijn64tab), ("internal/strconv.uint64pow10", laid_internal_strconv_uint64pow10)] }
def FnIslandNumbersSaid : Prop := fnIslandNumbersRow.holds Tryd.pinned (OpenSpec.ofChange fnIslandNumbersSpec)

/-- ITS FALSE NEIGHBOUR: 'it returns false'. Refute it at one input. -/
def fnIslandNumbersWrong : ChangeSpec := { name := "fnIslandNumbers", fn := fun _ => fun
  | [d] => { results := [.lit (.bool false)], args := [d] }
  | _ => none }
def FnIslandNumbersWrongFalsely : Prop := fnIslandNumbersRow.holds Tryd.pinned (OpenSpec.ofChange fnIslandNumbersWrong)

/-- 'laws.FnHasCycle': WHATEVER THE INPUT: true; the input reads as it did. -/
def fnHasCycleSpec : ChangeSpec := { name := "fnHasCycle", fn := fun _ => fun
  | [d] => { results := [.lit (.bool true)], args := [d] }
  | _ => none }
def fnHasCycleRow : OpenClaim := { program := "ythkdkjmnnpcdhaadoor", sum := "b6ff906c9de4309d91d4195ce9373771a245532e8ef571859cb2675ec0d5d329", func := "loop.example/powercontrol/laws.FnHasCycle", spec := "fnHasCycle", inPlace := ["internal/abi.NoEscape"], named := ["internal/strconv.uint64pow10", "math/bits.deBruijn32tab", "math/bits.deBruijn64tab"], apart := false, laid := [("math/bits.deBruijn32tab", laid_math_bits_deBruijn32tab), ("math/bits.deBruijn64tab", laid_math_bits_deBruijn64tab), ("internal/strconv.uint64pow10", laid_internal_strconv_uint64pow10)] }
def FnHasCycleSaid : Prop := fnHasCycleRow.holds Tryd.pinned (OpenSpec.ofChange fnHasCycleSpec)

/-- ITS FALSE NEIGHBOUR: 'it returns false'. Refute it at one input. -/
def fnHasCycleWrong : ChangeSpec := { name := "fnHasCycle", fn := fun _ => fun
  | [d] => { results := [.lit (.bool false)], args := [d] }
  | _ => none }
def FnHasCycleWrongFalsely : Prop := fnHasCycleRow.holds Tryd.pinned (OpenSpec.ofChange fnHasCycleWrong)

/- THE SECOND FORM. 'bulk': how many values and letters a reading holds, each counted each time it is reached (what is shared counts as often as it is met; a slice's spare places count too). A statement '..UptoSaid' is the law's where the arguments, and the package variables that the reading takes, are together of bulk at most 1048576: NARROWER than '..Said'. Prove '..Said' where nothing that the law and all that it calls make is longer than what came in: it says more and counts as full. Else prove '..UptoSaid'. A law counts once. -/
mutual
def uptoBulk {H : Type} : DataW H → Nat
  | .lit (.string bytes) => bytes.length + 1
  | .lit _ => 1
  | .nil => 1
  | .ptr d => uptoBulk d + 1
  | .slice elems spare => uptoBulkAll elems + uptoBulkAll spare + 1
  | .agg parts => uptoBulkAll parts + 1
  | .iface _ d => uptoBulk d + 1
  | .map entries => uptoBulkEntries entries + 1
  | .held _ => 1
def uptoBulkAll {H : Type} : List (DataW H) → Nat
  | [] => 0
  | d :: r => uptoBulk d + uptoBulkAll r
def uptoBulkEntries {H : Type} : List (Lit × DataW H) → Nat
  | [] => 0
  | x :: r => uptoBulkEntry x + uptoBulkEntries r
def uptoBulkEntry {H : Type} : Lit × DataW H → Nat
  | (.string bytes, d) => bytes.length + uptoBulk d + 1
  | (_, d) => uptoBulk d + 1
 end
def uptoSmall : (H : Type) → List (DataW H) → Bool := fun _ ds => decide (uptoBulkAll ds ≤ 1048576)
def OpenSpec.upto (s : _root_.Go.ChangeSpec) : _root_.Go.OpenSpec := { _root_.Go.OpenSpec.ofChange s with cond := some uptoSmall }

/-- 'laws.FnChangeAll', WHERE WHAT IT READS IS OF BULK AT MOST 1048576: true; the input reads as it did. -/
def fnChangeAllUptoRow : OpenClaim := { program := "ythkdkjmnnpcdhaadoor", sum := "b6ff906c9de4309d91d4195ce9373771a245532e8ef571859cb2675ec0d5d329", func := "loop.example/powercontrol/laws.FnChangeAll", spec := "fnChangeAll", inPlace := ["internal/abi.NoEscape"], named := ["internal/strconv.uint64pow10", "math/bits.deBruijn32tab", "math/bits.deBruijn64tab"], apart := false, laid := [("math/bits.deBruijn32tab", laid_math_bits_deBruijn32tab), ("math/bits.deBruijn64tab", laid_math_bits_deBruijn64tab), ("internal/strconv.uint64pow10", laid_internal_strconv_uint64pow10)], narrowed := true }
def FnChangeAllUptoSaid : Prop := fnChangeAllUptoRow.holds Tryd.pinned (OpenSpec.upto fnChangeAllSpec)

/-- 'laws.FnChanges', WHERE WHAT IT READS IS OF BULK AT MOST 1048576: true; the input reads as it did. -/
def fnChangesUptoRow : OpenClaim := { program := "ythkdkjmnnpcdhaadoor", sum := "b6ff906c9de4309d91d4195ce9373771a245532e8ef571859cb2675ec0d5d329", func := "loop.example/powercontrol/laws.FnChanges", spec := "fnChanges", inPlace := ["internal/abi.NoEscape"], named := ["internal/strconv.uint64pow10", "math/bits.deBruijn32tab", "math/bits.deBruijn64tab"], apart := false, laid := [("math/bits.deBruijn32tab", laid_math_bits_deBruijn32tab), ("math/bits.deBruijn64tab", laid_math_bits_deBruijn64tab), ("internal/strconv.uint64pow10", laid_internal_strconv_uint64pow10)], narrowed := true }
def FnChangesUptoSaid : Prop := fnChangesUptoRow.holds Tryd.pinned (OpenSpec.upto fnChangesSpec)

/-- 'laws.FnSwitchLine', WHERE WHAT IT READS IS OF BULK AT MOST 1048576: true; the input reads as it did. -/
def fnSwitchLineUptoRow : OpenClaim := { program := "ythkdkjmnnpcdhaadoor", sum := "b6ff906c9de4309d91d4195ce9373771a245532e8ef571859cb2675ec0d5d329", func := "loop.example/powercontrol/laws.FnSwitchLine", spec := "fnSwitchLine", inPlace := ["internal/abi.NoEscape"], named := ["internal/strconv.uint64pow10", "math/bits.deBruijn32tab", "math/bits.deBruijn64tab"], apart := false, laid := [("math/bits.deBruijn32tab", laid_math_bits_deBruijn32tab), ("math/bits.deBruijn64tab", laid_math_bits_deBruijn64tab), ("internal/strconv.uint64pow10", laid_internal_strconv_uint64pow10)], narrowed := true }
def FnSwitchLineUptoSaid : Prop := fnSwitchLineUptoRow.holds Tryd.pinned (OpenSpec.upto fnSwitchLineSpec)

/-- 'laws.FnSameIsland', WHERE WHAT IT READS IS OF BULK AT MOST 1048576: true; the input reads as it did. -/
def fnSameIslandUptoRow : OpenClaim := { program := "ythkdkjmnnpcdhaadoor", sum := "b6ff906c9de4309d91d4195ce9373771a245532e8ef571859cb2675ec0d5d329", func := "loop.example/powercontrol/laws.FnSameIsland", spec := "fnSameIsland", inPlace := ["internal/abi.NoEscape"], named := ["internal/strconv.uint64pow10", "math/bits.deBruijn32tab", "math/bits.deBruijn64tab"], apart := false, laid := [("math/bits.deBruijn32tab", laid_math_bits_deBruijn32tab), ("math/bits.deBruijn64tab", laid_math_bits_deBruijn64tab), ("internal/strconv.uint64pow10", laid_internal_strconv_uint64pow10)], narrowed := true }
def FnSameIslandUptoSaid : Prop := fnSameIslandUptoRow.holds Tryd.pinned (OpenSpec.upto fnSameIslandSpec)

/-- 'laws.FnReached', WHERE WHAT IT READS IS OF BULK AT MOST 1048576: true; the input reads as it did. -/
def fnReachedUptoRow : OpenClaim := { program := "ythkdkjmnnpcdhaadoor", sum := "b6ff906c9de4309d91d4195ce9373771a245532e8ef571859cb2675ec0d5d329", func := "loop.example/powercontrol/laws.FnReached", spec := "fnReached", inPlace := ["internal/abi.NoEscape"], named := ["internal/strconv.uint64pow10", "math/bits.deBruijn32tab", "math/bits.deBruijn64tab"], apart := false, laid := [("math/bits.deBruijn32tab", laid_math_bits_deBruijn32tab), ("math/bits.deBruijn64tab", laid_math_bits_deBruijn64tab), ("internal/strconv.uint64pow10", laid_internal_strconv_uint64pow10)], narrowed := true }
def FnReachedUptoSaid : Prop := fnReachedUptoRow.holds Tryd.pinned (OpenSpec.upto fnReachedSpec)

/-- 'laws.FnIslandsOf', WHERE WHAT IT READS IS OF BULK AT MOST 1048576: true; the input reads as it did. -/
def fnIslandsOfUptoRow : OpenClaim := { program := "ythkdkjmnnpcdhaadoor", sum := "b6ff906c9de4309d91d4195ce9373771a245532e8ef571859cb2675ec0d5d329", func := "loop.example/powercontrol/laws.FnIslandsOf", spec := "fnIslandsOf", inPlace := ["internal/abi.NoEscape"], named := ["internal/strconv.uint64pow10", "math/bits.deBruijn32tab", "math/bits.deBruijn64tab"], apart := false, laid := [("math/bits.deBruijn32tab", laid_math_bits_deBruijn32tab), ("math/bits.deBruijn64tab", laid_math_bits_deBruijn64tab), ("internal/strconv.uint64pow10", laid_internal_strconv_uint64pow10)], narrowed := true }
def FnIslandsOfUptoSaid : Prop := fnIslandsOfUptoRow.holds Tryd.pinned (OpenSpec.upto fnIslandsOfSpec)

/-- 'laws.FnIslandNumbers', WHERE WHAT IT READS IS OF BULK AT MOST 1048576: true; the input reads as it did. -/
def fnIslandNumbersUptoRow : OpenClaim := { program := "ythkdkjmnnpcdhaadoor", sum := "b6ff906c9de4309d91d4195ce9373771a245532e8ef571859cb2675ec0d5d329", func := "loop.example/powercontrol/laws.FnIslandNumbers", spec := "fnIslandNumbers", inPlace := ["internal/abi.NoEscape"], named := ["internal/strconv.uint64pow10", "math/bits.deBruijn32tab", "math/bits.deBruijn64tab"], apart := false, laid := [("math/bits.deBruijn32tab", laid_math_bits_deBruijn32tab), ("math/bits.deBruijn64tab", laid_math_bits_deBruijn64tab), ("internal/strconv.uint64pow10", laid_internal_strconv_uint64pow10)], narrowed := true }
def FnIslandNumbersUptoSaid : Prop := fnIslandNumbersUptoRow.holds Tryd.pinned (OpenSpec.upto fnIslandNumbersSpec)

/-- 'laws.FnHasCycle', WHERE WHAT IT READS IS OF BULK AT MOST 1048576: true; the input reads as it did. -/
def fnHasCycleUptoRow : OpenClaim := { program := "ythkdkjmnnpcdhaadoor", sum := "b6ff906c9de4309d91d4195ce9373771a245532e8ef571859cb2675ec0d5d329", func := "loop.example/powercontrol/laws.FnHasCycle", spec := "fnHasCycle", inPlace := ["internal/abi.NoEscape"], named := ["internal/strconv.uint64pow10", "math/bits.deBruijn32tab", "math/bits.deBruijn64tab"], apart := false, laid := [("math/bits.deBruijn32tab", laid_math_bits_deBruijn32tab), ("math/bits.deBruijn64tab", laid_math_bits_deBruijn64tab), ("internal/strconv.uint64pow10", laid_internal_strconv_uint64pow10)], narrowed := true }
def FnHasCycleUptoSaid : Prop := fnHasCycleUptoRow.holds Tryd.pinned (OpenSpec.upto fnHasCycleSpec)

end Rows
end Go.Proofs.YthkdkjmnnpcdhaaDoor
