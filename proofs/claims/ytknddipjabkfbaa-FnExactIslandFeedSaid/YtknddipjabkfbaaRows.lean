/-
  No cell of these rows narrows 'for every input' (looked for: loops, veiled, ifaces, maps, wideKeys, modest, calm, conditions, laid).
  DERIVED. THE GIVEN ROWS OF THIS SEAT. 11 by the template 'for every input the law returns true; each argument reads behind the call as it read before'; 0 by the template 'total and deterministic' (their statements: YtknddipjabkfbaaTotals.lean).
  GIVEN WITH THE SEED: the statements are not yours to turn. If you find one false, say at which input.
  Laid BY PROGRAM, IN A SANDBOX (cutbox-rows.mjs): the forced cells as the released guide's own fill.sh prints them over the translation 9073e185f5d61dce… (all of the seat's roots in one cut). By AI agents, Wed Nov 11 2026. No macro, syntax, notation, axiom, sorry.
-/
import Derived.Test.YtknddipjabkfbaaChecked
import GoSem.Claim
import GoSem.ClaimJoined
import GoSem.ClaimMapViews
import Derived.JoinedTies
import Derived.KernelRfl
namespace Go.Proofs.Ytknddipjabkfbaa
/- THE CELL 'sum', in the pinned program and in every row, IS THE sha256 OF THE DUMP (.gsa) THAT YtknddipjabkfbaaProg.lean LOADS. Nothing in Lean hashes anything: it is a label: what it is worth is what the hold of that sum in a sandbox is worth. -/
noncomputable def Try.pinned : Pinned := { name := "ytknddipjabkfbaa", sum := "9073e185f5d61dce53fa42b70cdc5eaeb2a652fa68a064c74f3266ca3f68c77d", checked := Try.checked }
namespace Rows
def none {H : Type} : Left H := { results := [], args := [] }

/-- 'laws.FnExactSameIsland': WHATEVER THE INPUT: true; the input reads as it did. -/
def fnExactSameIslandSpec : ChangeSpec := { name := "fnExactSameIsland", fn := fun _ => fun
  | [d1, d2, d3, d4] => { results := [.lit (.bool true)], args := [d1, d2, d3, d4] }
  | _ => none }
def fnExactSameIslandRow : OpenClaim := { program := "ytknddipjabkfbaa", sum := "9073e185f5d61dce53fa42b70cdc5eaeb2a652fa68a064c74f3266ca3f68c77d", func := "loop.example/powercontrol/laws.FnExactSameIsland", spec := "fnExactSameIsland", apart := false }
def FnExactSameIslandSaid : Prop := fnExactSameIslandRow.holds Try.pinned (OpenSpec.ofChange fnExactSameIslandSpec)

/-- ITS FALSE NEIGHBOUR: 'it returns false'. Refute it at one input. -/
def fnExactSameIslandWrong : ChangeSpec := { name := "fnExactSameIsland", fn := fun _ => fun
  | [d1, d2, d3, d4] => { results := [.lit (.bool false)], args := [d1, d2, d3, d4] }
  | _ => none }
def FnExactSameIslandWrongFalsely : Prop := fnExactSameIslandRow.holds Try.pinned (OpenSpec.ofChange fnExactSameIslandWrong)

/-- 'laws.FnExactHasCycle': WHATEVER THE INPUT: true; the input reads as it did. -/
def fnExactHasCycleSpec : ChangeSpec := { name := "fnExactHasCycle", fn := fun _ => fun
  | [d1, d2] => { results := [.lit (.bool true)], args := [d1, d2] }
  | _ => none }
def fnExactHasCycleRow : OpenClaim := { program := "ytknddipjabkfbaa", sum := "9073e185f5d61dce53fa42b70cdc5eaeb2a652fa68a064c74f3266ca3f68c77d", func := "loop.example/powercontrol/laws.FnExactHasCycle", spec := "fnExactHasCycle", apart := false }
def FnExactHasCycleSaid : Prop := fnExactHasCycleRow.holds Try.pinned (OpenSpec.ofChange fnExactHasCycleSpec)

/-- ITS FALSE NEIGHBOUR: 'it returns false'. Refute it at one input. -/
def fnExactHasCycleWrong : ChangeSpec := { name := "fnExactHasCycle", fn := fun _ => fun
  | [d1, d2] => { results := [.lit (.bool false)], args := [d1, d2] }
  | _ => none }
def FnExactHasCycleWrongFalsely : Prop := fnExactHasCycleRow.holds Try.pinned (OpenSpec.ofChange fnExactHasCycleWrong)

/-- 'laws.FnExactIslandNumbers': WHATEVER THE INPUT: true; the input reads as it did. -/
def fnExactIslandNumbersSpec : ChangeSpec := { name := "fnExactIslandNumbers", fn := fun _ => fun
  | [d1, d2] => { results := [.lit (.bool true)], args := [d1, d2] }
  | _ => none }
def fnExactIslandNumbersRow : OpenClaim := { program := "ytknddipjabkfbaa", sum := "9073e185f5d61dce53fa42b70cdc5eaeb2a652fa68a064c74f3266ca3f68c77d", func := "loop.example/powercontrol/laws.FnExactIslandNumbers", spec := "fnExactIslandNumbers", apart := false }
def FnExactIslandNumbersSaid : Prop := fnExactIslandNumbersRow.holds Try.pinned (OpenSpec.ofChange fnExactIslandNumbersSpec)

/-- ITS FALSE NEIGHBOUR: 'it returns false'. Refute it at one input. -/
def fnExactIslandNumbersWrong : ChangeSpec := { name := "fnExactIslandNumbers", fn := fun _ => fun
  | [d1, d2] => { results := [.lit (.bool false)], args := [d1, d2] }
  | _ => none }
def FnExactIslandNumbersWrongFalsely : Prop := fnExactIslandNumbersRow.holds Try.pinned (OpenSpec.ofChange fnExactIslandNumbersWrong)

/-- 'laws.FnExactReached': WHATEVER THE INPUT: true; the input reads as it did. -/
def fnExactReachedSpec : ChangeSpec := { name := "fnExactReached", fn := fun _ => fun
  | [d1, d2, d3] => { results := [.lit (.bool true)], args := [d1, d2, d3] }
  | _ => none }
def fnExactReachedRow : OpenClaim := { program := "ytknddipjabkfbaa", sum := "9073e185f5d61dce53fa42b70cdc5eaeb2a652fa68a064c74f3266ca3f68c77d", func := "loop.example/powercontrol/laws.FnExactReached", spec := "fnExactReached", apart := false }
def FnExactReachedSaid : Prop := fnExactReachedRow.holds Try.pinned (OpenSpec.ofChange fnExactReachedSpec)

/-- ITS FALSE NEIGHBOUR: 'it returns false'. Refute it at one input. -/
def fnExactReachedWrong : ChangeSpec := { name := "fnExactReached", fn := fun _ => fun
  | [d1, d2, d3] => { results := [.lit (.bool false)], args := [d1, d2, d3] }
  | _ => none }
def FnExactReachedWrongFalsely : Prop := fnExactReachedRow.holds Try.pinned (OpenSpec.ofChange fnExactReachedWrong)

/-- 'laws.FnExactSpanningLines': WHATEVER THE INPUT: true; the input reads as it did. -/
def fnExactSpanningLinesSpec : ChangeSpec := { name := "fnExactSpanningLines", fn := fun _ => fun
  | [d1, d2] => { results := [.lit (.bool true)], args := [d1, d2] }
  | _ => none }
def fnExactSpanningLinesRow : OpenClaim := { program := "ytknddipjabkfbaa", sum := "9073e185f5d61dce53fa42b70cdc5eaeb2a652fa68a064c74f3266ca3f68c77d", func := "loop.example/powercontrol/laws.FnExactSpanningLines", spec := "fnExactSpanningLines", unfollowed := true, recurses := true, apart := false }
def FnExactSpanningLinesSaid : Prop := fnExactSpanningLinesRow.holds Try.pinned (OpenSpec.ofChange fnExactSpanningLinesSpec)

/-- ITS FALSE NEIGHBOUR: 'it returns false'. Refute it at one input. -/
def fnExactSpanningLinesWrong : ChangeSpec := { name := "fnExactSpanningLines", fn := fun _ => fun
  | [d1, d2] => { results := [.lit (.bool false)], args := [d1, d2] }
  | _ => none }
def FnExactSpanningLinesWrongFalsely : Prop := fnExactSpanningLinesRow.holds Try.pinned (OpenSpec.ofChange fnExactSpanningLinesWrong)

/-- 'laws.FnExactIslandFeed': WHATEVER THE INPUT: true; the input reads as it did. -/
def fnExactIslandFeedSpec : ChangeSpec := { name := "fnExactIslandFeed", fn := fun _ => fun
  | [d1, d2, d3, d4] => { results := [.lit (.bool true)], args := [d1, d2, d3, d4] }
  | _ => none }
def fnExactIslandFeedRow : OpenClaim := { program := "ytknddipjabkfbaa", sum := "9073e185f5d61dce53fa42b70cdc5eaeb2a652fa68a064c74f3266ca3f68c77d", func := "loop.example/powercontrol/laws.FnExactIslandFeed", spec := "fnExactIslandFeed", apart := false }
def FnExactIslandFeedSaid : Prop := fnExactIslandFeedRow.holds Try.pinned (OpenSpec.ofChange fnExactIslandFeedSpec)

/-- ITS FALSE NEIGHBOUR: 'it returns false'. Refute it at one input. -/
def fnExactIslandFeedWrong : ChangeSpec := { name := "fnExactIslandFeed", fn := fun _ => fun
  | [d1, d2, d3, d4] => { results := [.lit (.bool false)], args := [d1, d2, d3, d4] }
  | _ => none }
def FnExactIslandFeedWrongFalsely : Prop := fnExactIslandFeedRow.holds Try.pinned (OpenSpec.ofChange fnExactIslandFeedWrong)

/-- 'laws.FnExactIslandLoad': WHATEVER THE INPUT: true; the input reads as it did. -/
def fnExactIslandLoadSpec : ChangeSpec := { name := "fnExactIslandLoad", fn := fun _ => fun
  | [d1, d2, d3, d4] => { results := [.lit (.bool true)], args := [d1, d2, d3, d4] }
  | _ => none }
def fnExactIslandLoadRow : OpenClaim := { program := "ytknddipjabkfbaa", sum := "9073e185f5d61dce53fa42b70cdc5eaeb2a652fa68a064c74f3266ca3f68c77d", func := "loop.example/powercontrol/laws.FnExactIslandLoad", spec := "fnExactIslandLoad", apart := false }
def FnExactIslandLoadSaid : Prop := fnExactIslandLoadRow.holds Try.pinned (OpenSpec.ofChange fnExactIslandLoadSpec)

/-- ITS FALSE NEIGHBOUR: 'it returns false'. Refute it at one input. -/
def fnExactIslandLoadWrong : ChangeSpec := { name := "fnExactIslandLoad", fn := fun _ => fun
  | [d1, d2, d3, d4] => { results := [.lit (.bool false)], args := [d1, d2, d3, d4] }
  | _ => none }
def FnExactIslandLoadWrongFalsely : Prop := fnExactIslandLoadRow.holds Try.pinned (OpenSpec.ofChange fnExactIslandLoadWrong)

/-- 'laws.FnExactCycleLines': WHATEVER THE INPUT: true; the input reads as it did. -/
def fnExactCycleLinesSpec : ChangeSpec := { name := "fnExactCycleLines", fn := fun _ => fun
  | [d1, d2] => { results := [.lit (.bool true)], args := [d1, d2] }
  | _ => none }
def fnExactCycleLinesRow : OpenClaim := { program := "ytknddipjabkfbaa", sum := "9073e185f5d61dce53fa42b70cdc5eaeb2a652fa68a064c74f3266ca3f68c77d", func := "loop.example/powercontrol/laws.FnExactCycleLines", spec := "fnExactCycleLines", unfollowed := true, recurses := true, apart := false }
def FnExactCycleLinesSaid : Prop := fnExactCycleLinesRow.holds Try.pinned (OpenSpec.ofChange fnExactCycleLinesSpec)

/-- ITS FALSE NEIGHBOUR: 'it returns false'. Refute it at one input. -/
def fnExactCycleLinesWrong : ChangeSpec := { name := "fnExactCycleLines", fn := fun _ => fun
  | [d1, d2] => { results := [.lit (.bool false)], args := [d1, d2] }
  | _ => none }
def FnExactCycleLinesWrongFalsely : Prop := fnExactCycleLinesRow.holds Try.pinned (OpenSpec.ofChange fnExactCycleLinesWrong)

/-- 'laws.FnExactBridgeLines': WHATEVER THE INPUT: true; the input reads as it did. -/
def fnExactBridgeLinesSpec : ChangeSpec := { name := "fnExactBridgeLines", fn := fun _ => fun
  | [d1, d2] => { results := [.lit (.bool true)], args := [d1, d2] }
  | _ => none }
def fnExactBridgeLinesRow : OpenClaim := { program := "ytknddipjabkfbaa", sum := "9073e185f5d61dce53fa42b70cdc5eaeb2a652fa68a064c74f3266ca3f68c77d", func := "loop.example/powercontrol/laws.FnExactBridgeLines", spec := "fnExactBridgeLines", unfollowed := true, recurses := true, apart := false }
def FnExactBridgeLinesSaid : Prop := fnExactBridgeLinesRow.holds Try.pinned (OpenSpec.ofChange fnExactBridgeLinesSpec)

/-- ITS FALSE NEIGHBOUR: 'it returns false'. Refute it at one input. -/
def fnExactBridgeLinesWrong : ChangeSpec := { name := "fnExactBridgeLines", fn := fun _ => fun
  | [d1, d2] => { results := [.lit (.bool false)], args := [d1, d2] }
  | _ => none }
def FnExactBridgeLinesWrongFalsely : Prop := fnExactBridgeLinesRow.holds Try.pinned (OpenSpec.ofChange fnExactBridgeLinesWrong)

/-- 'laws.FnExactIslandsOf': WHATEVER THE INPUT: true; the input reads as it did. -/
def fnExactIslandsOfSpec : ChangeSpec := { name := "fnExactIslandsOf", fn := fun _ => fun
  | [d1, d2] => { results := [.lit (.bool true)], args := [d1, d2] }
  | _ => none }
def fnExactIslandsOfRow : OpenClaim := { program := "ytknddipjabkfbaa", sum := "9073e185f5d61dce53fa42b70cdc5eaeb2a652fa68a064c74f3266ca3f68c77d", func := "loop.example/powercontrol/laws.FnExactIslandsOf", spec := "fnExactIslandsOf", apart := false }
def FnExactIslandsOfSaid : Prop := fnExactIslandsOfRow.holds Try.pinned (OpenSpec.ofChange fnExactIslandsOfSpec)

/-- ITS FALSE NEIGHBOUR: 'it returns false'. Refute it at one input. -/
def fnExactIslandsOfWrong : ChangeSpec := { name := "fnExactIslandsOf", fn := fun _ => fun
  | [d1, d2] => { results := [.lit (.bool false)], args := [d1, d2] }
  | _ => none }
def FnExactIslandsOfWrongFalsely : Prop := fnExactIslandsOfRow.holds Try.pinned (OpenSpec.ofChange fnExactIslandsOfWrong)

/-- 'laws.FnExactServedLoad': WHATEVER THE INPUT: true; the input reads as it did. -/
def fnExactServedLoadSpec : ChangeSpec := { name := "fnExactServedLoad", fn := fun _ => fun
  | [d1, d2, d3] => { results := [.lit (.bool true)], args := [d1, d2, d3] }
  | _ => none }
def fnExactServedLoadRow : OpenClaim := { program := "ytknddipjabkfbaa", sum := "9073e185f5d61dce53fa42b70cdc5eaeb2a652fa68a064c74f3266ca3f68c77d", func := "loop.example/powercontrol/laws.FnExactServedLoad", spec := "fnExactServedLoad", apart := false }
def FnExactServedLoadSaid : Prop := fnExactServedLoadRow.holds Try.pinned (OpenSpec.ofChange fnExactServedLoadSpec)

/-- ITS FALSE NEIGHBOUR: 'it returns false'. Refute it at one input. -/
def fnExactServedLoadWrong : ChangeSpec := { name := "fnExactServedLoad", fn := fun _ => fun
  | [d1, d2, d3] => { results := [.lit (.bool false)], args := [d1, d2, d3] }
  | _ => none }
def FnExactServedLoadWrongFalsely : Prop := fnExactServedLoadRow.holds Try.pinned (OpenSpec.ofChange fnExactServedLoadWrong)

/- THE SECOND FORM. 'bulk': how many values and letters a reading holds, each counted each time it is reached (what is shared counts as often as it is met; a slice's spare places count too). A statement '..UptoSaid' is the law's where the arguments, and the package variables that the reading takes, are together of bulk at most 1048576: NARROWER than '..Said'. Prove '..Said' where nothing that the law and all that it calls make is longer than what came in: it says more and counts as full. Else prove '..UptoSaid'. A law counts once. -/
mutual
def uptoBulk {H : Type} : DataW H → Nat
  | .lit (.string bytes) => bytes.length + 1
  | .lit _ => 1
  | .nil => 1
  | .ptr d => uptoBulk d + 1
  | .slice elems spare => uptoBulkAll elems + uptoBulkAll spare + 1
  | .agg parts => uptoBulkAll parts + 1
  | .iface _ d => uptoBulk d + 1
  | .map entries => uptoBulkEntries entries + 1
  | .held _ => 1
def uptoBulkAll {H : Type} : List (DataW H) → Nat
  | [] => 0
  | d :: r => uptoBulk d + uptoBulkAll r
def uptoBulkEntries {H : Type} : List (Lit × DataW H) → Nat
  | [] => 0
  | x :: r => uptoBulkEntry x + uptoBulkEntries r
def uptoBulkEntry {H : Type} : Lit × DataW H → Nat
  | (.string bytes, d) => bytes.length + uptoBulk d + 1
  | (_, d) => uptoBulk d + 1
 end
def uptoSmall : (H : Type) → List (DataW H) → Bool := fun _ ds => decide (uptoBulkAll ds ≤ 1048576)
def OpenSpec.upto (s : _root_.Go.ChangeSpec) : _root_.Go.OpenSpec := { _root_.Go.OpenSpec.ofChange s with cond := some uptoSmall }

/-- 'laws.FnExactSameIsland', WHERE WHAT IT READS IS OF BULK AT MOST 1048576: true; the input reads as it did. -/
def fnExactSameIslandUptoRow : OpenClaim := { program := "ytknddipjabkfbaa", sum := "9073e185f5d61dce53fa42b70cdc5eaeb2a652fa68a064c74f3266ca3f68c77d", func := "loop.example/powercontrol/laws.FnExactSameIsland", spec := "fnExactSameIsland", apart := false, narrowed := true }
def FnExactSameIslandUptoSaid : Prop := fnExactSameIslandUptoRow.holds Try.pinned (OpenSpec.upto fnExactSameIslandSpec)

/-- 'laws.FnExactHasCycle', WHERE WHAT IT READS IS OF BULK AT MOST 1048576: true; the input reads as it did. -/
def fnExactHasCycleUptoRow : OpenClaim := { program := "ytknddipjabkfbaa", sum := "9073e185f5d61dce53fa42b70cdc5eaeb2a652fa68a064c74f3266ca3f68c77d", func := "loop.example/powercontrol/laws.FnExactHasCycle", spec := "fnExactHasCycle", apart := false, narrowed := true }
def FnExactHasCycleUptoSaid : Prop := fnExactHasCycleUptoRow.holds Try.pinned (OpenSpec.upto fnExactHasCycleSpec)

/-- 'laws.FnExactIslandNumbers', WHERE WHAT IT READS IS OF BULK AT MOST 1048576: true; the input reads as it did. -/
def fnExactIslandNumbersUptoRow : OpenClaim := { program := "ytknddipjabkfbaa", sum := "9073e185f5d61dce53fa42b70cdc5eaeb2a652fa68a064c74f3266ca3f68c77d", func := "loop.example/powercontrol/laws.FnExactIslandNumbers", spec := "fnExactIslandNumbers", apart := false, narrowed := true }
def FnExactIslandNumbersUptoSaid : Prop := fnExactIslandNumbersUptoRow.holds Try.pinned (OpenSpec.upto fnExactIslandNumbersSpec)

/-- 'laws.FnExactReached', WHERE WHAT IT READS IS OF BULK AT MOST 1048576: true; the input reads as it did. -/
def fnExactReachedUptoRow : OpenClaim := { program := "ytknddipjabkfbaa", sum := "9073e185f5d61dce53fa42b70cdc5eaeb2a652fa68a064c74f3266ca3f68c77d", func := "loop.example/powercontrol/laws.FnExactReached", spec := "fnExactReached", apart := false, narrowed := true }
def FnExactReachedUptoSaid : Prop := fnExactReachedUptoRow.holds Try.pinned (OpenSpec.upto fnExactReachedSpec)

/-- 'laws.FnExactSpanningLines', WHERE WHAT IT READS IS OF BULK AT MOST 1048576: true; the input reads as it did. -/
def fnExactSpanningLinesUptoRow : OpenClaim := { program := "ytknddipjabkfbaa", sum := "9073e185f5d61dce53fa42b70cdc5eaeb2a652fa68a064c74f3266ca3f68c77d", func := "loop.example/powercontrol/laws.FnExactSpanningLines", spec := "fnExactSpanningLines", unfollowed := true, recurses := true, apart := false, narrowed := true }
def FnExactSpanningLinesUptoSaid : Prop := fnExactSpanningLinesUptoRow.holds Try.pinned (OpenSpec.upto fnExactSpanningLinesSpec)

/-- 'laws.FnExactIslandFeed', WHERE WHAT IT READS IS OF BULK AT MOST 1048576: true; the input reads as it did. -/
def fnExactIslandFeedUptoRow : OpenClaim := { program := "ytknddipjabkfbaa", sum := "9073e185f5d61dce53fa42b70cdc5eaeb2a652fa68a064c74f3266ca3f68c77d", func := "loop.example/powercontrol/laws.FnExactIslandFeed", spec := "fnExactIslandFeed", apart := false, narrowed := true }
def FnExactIslandFeedUptoSaid : Prop := fnExactIslandFeedUptoRow.holds Try.pinned (OpenSpec.upto fnExactIslandFeedSpec)

/-- 'laws.FnExactIslandLoad', WHERE WHAT IT READS IS OF BULK AT MOST 1048576: true; the input reads as it did. -/
def fnExactIslandLoadUptoRow : OpenClaim := { program := "ytknddipjabkfbaa", sum := "9073e185f5d61dce53fa42b70cdc5eaeb2a652fa68a064c74f3266ca3f68c77d", func := "loop.example/powercontrol/laws.FnExactIslandLoad", spec := "fnExactIslandLoad", apart := false, narrowed := true }
def FnExactIslandLoadUptoSaid : Prop := fnExactIslandLoadUptoRow.holds Try.pinned (OpenSpec.upto fnExactIslandLoadSpec)

/-- 'laws.FnExactCycleLines', WHERE WHAT IT READS IS OF BULK AT MOST 1048576: true; the input reads as it did. -/
def fnExactCycleLinesUptoRow : OpenClaim := { program := "ytknddipjabkfbaa", sum := "9073e185f5d61dce53fa42b70cdc5eaeb2a652fa68a064c74f3266ca3f68c77d", func := "loop.example/powercontrol/laws.FnExactCycleLines", spec := "fnExactCycleLines", unfollowed := true, recurses := true, apart := false, narrowed := true }
def FnExactCycleLinesUptoSaid : Prop := fnExactCycleLinesUptoRow.holds Try.pinned (OpenSpec.upto fnExactCycleLinesSpec)

/-- 'laws.FnExactBridgeLines', WHERE WHAT IT READS IS OF BULK AT MOST 1048576: true; the input reads as it did. -/
def fnExactBridgeLinesUptoRow : OpenClaim := { program := "ytknddipjabkfbaa", sum := "9073e185f5d61dce53fa42b70cdc5eaeb2a652fa68a064c74f3266ca3f68c77d", func := "loop.example/powercontrol/laws.FnExactBridgeLines", spec := "fnExactBridgeLines", unfollowed := true, recurses := true, apart := false, narrowed := true }
def FnExactBridgeLinesUptoSaid : Prop := fnExactBridgeLinesUptoRow.holds Try.pinned (OpenSpec.upto fnExactBridgeLinesSpec)

/-- 'laws.FnExactIslandsOf', WHERE WHAT IT READS IS OF BULK AT MOST 1048576: true; the input reads as it did. -/
def fnExactIslandsOfUptoRow : OpenClaim := { program := "ytknddipjabkfbaa", sum := "9073e185f5d61dce53fa42b70cdc5eaeb2a652fa68a064c74f3266ca3f68c77d", func := "loop.example/powercontrol/laws.FnExactIslandsOf", spec := "fnExactIslandsOf", apart := false, narrowed := true }
def FnExactIslandsOfUptoSaid : Prop := fnExactIslandsOfUptoRow.holds Try.pinned (OpenSpec.upto fnExactIslandsOfSpec)

/-- 'laws.FnExactServedLoad', WHERE WHAT IT READS IS OF BULK AT MOST 1048576: true; the input reads as it did. -/
def fnExactServedLoadUptoRow : OpenClaim := { program := "ytknddipjabkfbaa", sum := "9073e185f5d61dce53fa42b70cdc5eaeb2a652fa68a064c74f3266ca3f68c77d", func := "loop.example/powercontrol/laws.FnExactServedLoad", spec := "fnExactServedLoad", apart := false, narrowed := true }
def FnExactServedLoadUptoSaid : Prop := fnExactServedLoadUptoRow.holds Try.pinned (OpenSpec.upto fnExactServedLoadSpec)

end Rows
end Go.Proofs.Ytknddipjabkfbaa
