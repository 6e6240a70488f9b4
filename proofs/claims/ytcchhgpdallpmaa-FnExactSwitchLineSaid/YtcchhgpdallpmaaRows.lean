/-
  No cell of these rows narrows 'for every input' (looked for: loops, veiled, ifaces, maps, wideKeys, modest, calm, conditions, laid).
  DERIVED. THE GIVEN ROWS OF THIS SEAT. 12 by the template 'for every input the law returns true; each argument reads behind the call as it read before'; 0 by the template 'total and deterministic' (their statements: YtcchhgpdallpmaaTotals.lean).
  GIVEN WITH THE SEED: the statements are not yours to turn. If you find one false, say at which input.
  Laid BY PROGRAM, IN A SANDBOX (cutbox-rows.mjs): the forced cells as the released guide's own fill.sh prints them over the translation d0a99b03e789002c… (all of the seat's roots in one cut). By AI agents, Wed Nov 11 2026. No macro, syntax, notation, axiom, sorry.
-/
import Derived.Test.YtcchhgpdallpmaaChecked
import GoSem.Claim
import GoSem.ClaimJoined
import GoSem.ClaimMapViews
import Derived.JoinedTies
import Derived.KernelRfl
namespace Go.Proofs.Ytcchhgpdallpmaa
/- THE CELL 'sum', in the pinned program and in every row, IS THE sha256 OF THE DUMP (.gsa) THAT YtcchhgpdallpmaaProg.lean LOADS. Nothing in Lean hashes anything: it is a label: what it is worth is what the hold of that sum in a sandbox is worth. -/
noncomputable def Try.pinned : Pinned := { name := "ytcchhgpdallpmaa", sum := "d0a99b03e789002ce183c021c950d9e6bc7b1dba70e5c5a7f3e1ccac097a2083", checked := Try.checked }
namespace Rows
def none {H : Type} : Left H := { results := [], args := [] }

/-- 'laws.FnExactConstants': WHATEVER THE INPUT: true; the input reads as it did. -/
def fnExactConstantsSpec : ChangeSpec := { name := "fnExactConstants", fn := fun _ => fun
  | [] => { results := [.lit (.bool true)], args := [] }
  | _ => none }
def fnExactConstantsRow : OpenClaim := { program := "ytcchhgpdallpmaa", sum := "d0a99b03e789002ce183c021c950d9e6bc7b1dba70e5c5a7f3e1ccac097a2083", func := "loop.example/powercontrol/laws.FnExactConstants", spec := "fnExactConstants", apart := false }
def FnExactConstantsSaid : Prop := fnExactConstantsRow.holds Try.pinned (OpenSpec.ofChange fnExactConstantsSpec)

/-- ITS FALSE NEIGHBOUR: 'it returns false'. Refute it at one input. -/
def fnExactConstantsWrong : ChangeSpec := { name := "fnExactConstants", fn := fun _ => fun
  | [] => { results := [.lit (.bool false)], args := [] }
  | _ => none }
def FnExactConstantsWrongFalsely : Prop := fnExactConstantsRow.holds Try.pinned (OpenSpec.ofChange fnExactConstantsWrong)

/-- 'laws.FnExactStateNumber': WHATEVER THE INPUT: true; the input reads as it did. -/
def fnExactStateNumberSpec : ChangeSpec := { name := "fnExactStateNumber", fn := fun _ => fun
  | [d] => { results := [.lit (.bool true)], args := [d] }
  | _ => none }
def fnExactStateNumberRow : OpenClaim := { program := "ytcchhgpdallpmaa", sum := "d0a99b03e789002ce183c021c950d9e6bc7b1dba70e5c5a7f3e1ccac097a2083", func := "loop.example/powercontrol/laws.FnExactStateNumber", spec := "fnExactStateNumber", apart := false }
def FnExactStateNumberSaid : Prop := fnExactStateNumberRow.holds Try.pinned (OpenSpec.ofChange fnExactStateNumberSpec)

/-- ITS FALSE NEIGHBOUR: 'it returns false'. Refute it at one input. -/
def fnExactStateNumberWrong : ChangeSpec := { name := "fnExactStateNumber", fn := fun _ => fun
  | [d] => { results := [.lit (.bool false)], args := [d] }
  | _ => none }
def FnExactStateNumberWrongFalsely : Prop := fnExactStateNumberRow.holds Try.pinned (OpenSpec.ofChange fnExactStateNumberWrong)

/-- 'laws.FnExactStateOf': WHATEVER THE INPUT: true; the input reads as it did. -/
def fnExactStateOfSpec : ChangeSpec := { name := "fnExactStateOf", fn := fun _ => fun
  | [d1, d2] => { results := [.lit (.bool true)], args := [d1, d2] }
  | _ => none }
def fnExactStateOfRow : OpenClaim := { program := "ytcchhgpdallpmaa", sum := "d0a99b03e789002ce183c021c950d9e6bc7b1dba70e5c5a7f3e1ccac097a2083", func := "loop.example/powercontrol/laws.FnExactStateOf", spec := "fnExactStateOf", apart := false }
def FnExactStateOfSaid : Prop := fnExactStateOfRow.holds Try.pinned (OpenSpec.ofChange fnExactStateOfSpec)

/-- ITS FALSE NEIGHBOUR: 'it returns false'. Refute it at one input. -/
def fnExactStateOfWrong : ChangeSpec := { name := "fnExactStateOf", fn := fun _ => fun
  | [d1, d2] => { results := [.lit (.bool false)], args := [d1, d2] }
  | _ => none }
def FnExactStateOfWrongFalsely : Prop := fnExactStateOfRow.holds Try.pinned (OpenSpec.ofChange fnExactStateOfWrong)

/-- 'laws.FnExactChanges': WHATEVER THE INPUT: true; the input reads as it did. -/
def fnExactChangesSpec : ChangeSpec := { name := "fnExactChanges", fn := fun _ => fun
  | [d1, d2] => { results := [.lit (.bool true)], args := [d1, d2] }
  | _ => none }
def fnExactChangesRow : OpenClaim := { program := "ytcchhgpdallpmaa", sum := "d0a99b03e789002ce183c021c950d9e6bc7b1dba70e5c5a7f3e1ccac097a2083", func := "loop.example/powercontrol/laws.FnExactChanges", spec := "fnExactChanges", apart := false }
def FnExactChangesSaid : Prop := fnExactChangesRow.holds Try.pinned (OpenSpec.ofChange fnExactChangesSpec)

/-- ITS FALSE NEIGHBOUR: 'it returns false'. Refute it at one input. -/
def fnExactChangesWrong : ChangeSpec := { name := "fnExactChanges", fn := fun _ => fun
  | [d1, d2] => { results := [.lit (.bool false)], args := [d1, d2] }
  | _ => none }
def FnExactChangesWrongFalsely : Prop := fnExactChangesRow.holds Try.pinned (OpenSpec.ofChange fnExactChangesWrong)

/-- 'laws.FnExactChangeAll': WHATEVER THE INPUT: true; the input reads as it did. -/
def fnExactChangeAllSpec : ChangeSpec := { name := "fnExactChangeAll", fn := fun _ => fun
  | [d1, d2] => { results := [.lit (.bool true)], args := [d1, d2] }
  | _ => none }
def fnExactChangeAllRow : OpenClaim := { program := "ytcchhgpdallpmaa", sum := "d0a99b03e789002ce183c021c950d9e6bc7b1dba70e5c5a7f3e1ccac097a2083", func := "loop.example/powercontrol/laws.FnExactChangeAll", spec := "fnExactChangeAll", apart := false }
def FnExactChangeAllSaid : Prop := fnExactChangeAllRow.holds Try.pinned (OpenSpec.ofChange fnExactChangeAllSpec)

/-- ITS FALSE NEIGHBOUR: 'it returns false'. Refute it at one input. -/
def fnExactChangeAllWrong : ChangeSpec := { name := "fnExactChangeAll", fn := fun _ => fun
  | [d1, d2] => { results := [.lit (.bool false)], args := [d1, d2] }
  | _ => none }
def FnExactChangeAllWrongFalsely : Prop := fnExactChangeAllRow.holds Try.pinned (OpenSpec.ofChange fnExactChangeAllWrong)

/-- 'laws.FnExactNetValid': WHATEVER THE INPUT: true; the input reads as it did. -/
def fnExactNetValidSpec : ChangeSpec := { name := "fnExactNetValid", fn := fun _ => fun
  | [d] => { results := [.lit (.bool true)], args := [d] }
  | _ => none }
def fnExactNetValidRow : OpenClaim := { program := "ytcchhgpdallpmaa", sum := "d0a99b03e789002ce183c021c950d9e6bc7b1dba70e5c5a7f3e1ccac097a2083", func := "loop.example/powercontrol/laws.FnExactNetValid", spec := "fnExactNetValid", apart := false }
def FnExactNetValidSaid : Prop := fnExactNetValidRow.holds Try.pinned (OpenSpec.ofChange fnExactNetValidSpec)

/-- ITS FALSE NEIGHBOUR: 'it returns false'. Refute it at one input. -/
def fnExactNetValidWrong : ChangeSpec := { name := "fnExactNetValid", fn := fun _ => fun
  | [d] => { results := [.lit (.bool false)], args := [d] }
  | _ => none }
def FnExactNetValidWrongFalsely : Prop := fnExactNetValidRow.holds Try.pinned (OpenSpec.ofChange fnExactNetValidWrong)

/-- 'laws.FnExactLineBetween': WHATEVER THE INPUT: true; the input reads as it did. -/
def fnExactLineBetweenSpec : ChangeSpec := { name := "fnExactLineBetween", fn := fun _ => fun
  | [d1, d2, d3] => { results := [.lit (.bool true)], args := [d1, d2, d3] }
  | _ => none }
def fnExactLineBetweenRow : OpenClaim := { program := "ytcchhgpdallpmaa", sum := "d0a99b03e789002ce183c021c950d9e6bc7b1dba70e5c5a7f3e1ccac097a2083", func := "loop.example/powercontrol/laws.FnExactLineBetween", spec := "fnExactLineBetween", apart := false }
def FnExactLineBetweenSaid : Prop := fnExactLineBetweenRow.holds Try.pinned (OpenSpec.ofChange fnExactLineBetweenSpec)

/-- ITS FALSE NEIGHBOUR: 'it returns false'. Refute it at one input. -/
def fnExactLineBetweenWrong : ChangeSpec := { name := "fnExactLineBetween", fn := fun _ => fun
  | [d1, d2, d3] => { results := [.lit (.bool false)], args := [d1, d2, d3] }
  | _ => none }
def FnExactLineBetweenWrongFalsely : Prop := fnExactLineBetweenRow.holds Try.pinned (OpenSpec.ofChange fnExactLineBetweenWrong)

/-- 'laws.FnExactStateValid': WHATEVER THE INPUT: true; the input reads as it did. -/
def fnExactStateValidSpec : ChangeSpec := { name := "fnExactStateValid", fn := fun _ => fun
  | [d1, d2] => { results := [.lit (.bool true)], args := [d1, d2] }
  | _ => none }
def fnExactStateValidRow : OpenClaim := { program := "ytcchhgpdallpmaa", sum := "d0a99b03e789002ce183c021c950d9e6bc7b1dba70e5c5a7f3e1ccac097a2083", func := "loop.example/powercontrol/laws.FnExactStateValid", spec := "fnExactStateValid", apart := false }
def FnExactStateValidSaid : Prop := fnExactStateValidRow.holds Try.pinned (OpenSpec.ofChange fnExactStateValidSpec)

/-- ITS FALSE NEIGHBOUR: 'it returns false'. Refute it at one input. -/
def fnExactStateValidWrong : ChangeSpec := { name := "fnExactStateValid", fn := fun _ => fun
  | [d1, d2] => { results := [.lit (.bool false)], args := [d1, d2] }
  | _ => none }
def FnExactStateValidWrongFalsely : Prop := fnExactStateValidRow.holds Try.pinned (OpenSpec.ofChange fnExactStateValidWrong)

/-- 'laws.FnExactOtherEnd': WHATEVER THE INPUT: true; the input reads as it did. -/
def fnExactOtherEndSpec : ChangeSpec := { name := "fnExactOtherEnd", fn := fun _ => fun
  | [d1, d2, d3] => { results := [.lit (.bool true)], args := [d1, d2, d3] }
  | _ => none }
def fnExactOtherEndRow : OpenClaim := { program := "ytcchhgpdallpmaa", sum := "d0a99b03e789002ce183c021c950d9e6bc7b1dba70e5c5a7f3e1ccac097a2083", func := "loop.example/powercontrol/laws.FnExactOtherEnd", spec := "fnExactOtherEnd", apart := false }
def FnExactOtherEndSaid : Prop := fnExactOtherEndRow.holds Try.pinned (OpenSpec.ofChange fnExactOtherEndSpec)

/-- ITS FALSE NEIGHBOUR: 'it returns false'. Refute it at one input. -/
def fnExactOtherEndWrong : ChangeSpec := { name := "fnExactOtherEnd", fn := fun _ => fun
  | [d1, d2, d3] => { results := [.lit (.bool false)], args := [d1, d2, d3] }
  | _ => none }
def FnExactOtherEndWrongFalsely : Prop := fnExactOtherEndRow.holds Try.pinned (OpenSpec.ofChange fnExactOtherEndWrong)

/-- 'laws.FnExactBusesValid': WHATEVER THE INPUT: true; the input reads as it did. -/
def fnExactBusesValidSpec : ChangeSpec := { name := "fnExactBusesValid", fn := fun _ => fun
  | [d1, d2] => { results := [.lit (.bool true)], args := [d1, d2] }
  | _ => none }
def fnExactBusesValidRow : OpenClaim := { program := "ytcchhgpdallpmaa", sum := "d0a99b03e789002ce183c021c950d9e6bc7b1dba70e5c5a7f3e1ccac097a2083", func := "loop.example/powercontrol/laws.FnExactBusesValid", spec := "fnExactBusesValid", apart := false }
def FnExactBusesValidSaid : Prop := fnExactBusesValidRow.holds Try.pinned (OpenSpec.ofChange fnExactBusesValidSpec)

/-- ITS FALSE NEIGHBOUR: 'it returns false'. Refute it at one input. -/
def fnExactBusesValidWrong : ChangeSpec := { name := "fnExactBusesValid", fn := fun _ => fun
  | [d1, d2] => { results := [.lit (.bool false)], args := [d1, d2] }
  | _ => none }
def FnExactBusesValidWrongFalsely : Prop := fnExactBusesValidRow.holds Try.pinned (OpenSpec.ofChange fnExactBusesValidWrong)

/-- 'laws.FnExactLinesAt': WHATEVER THE INPUT: true; the input reads as it did. -/
def fnExactLinesAtSpec : ChangeSpec := { name := "fnExactLinesAt", fn := fun _ => fun
  | [d1, d2] => { results := [.lit (.bool true)], args := [d1, d2] }
  | _ => none }
def fnExactLinesAtRow : OpenClaim := { program := "ytcchhgpdallpmaa", sum := "d0a99b03e789002ce183c021c950d9e6bc7b1dba70e5c5a7f3e1ccac097a2083", func := "loop.example/powercontrol/laws.FnExactLinesAt", spec := "fnExactLinesAt", apart := false }
def FnExactLinesAtSaid : Prop := fnExactLinesAtRow.holds Try.pinned (OpenSpec.ofChange fnExactLinesAtSpec)

/-- ITS FALSE NEIGHBOUR: 'it returns false'. Refute it at one input. -/
def fnExactLinesAtWrong : ChangeSpec := { name := "fnExactLinesAt", fn := fun _ => fun
  | [d1, d2] => { results := [.lit (.bool false)], args := [d1, d2] }
  | _ => none }
def FnExactLinesAtWrongFalsely : Prop := fnExactLinesAtRow.holds Try.pinned (OpenSpec.ofChange fnExactLinesAtWrong)

/-- 'laws.FnExactSwitchLine': WHATEVER THE INPUT: true; the input reads as it did. -/
def fnExactSwitchLineSpec : ChangeSpec := { name := "fnExactSwitchLine", fn := fun _ => fun
  | [d1, d2, d3, d4] => { results := [.lit (.bool true)], args := [d1, d2, d3, d4] }
  | _ => none }
def fnExactSwitchLineRow : OpenClaim := { program := "ytcchhgpdallpmaa", sum := "d0a99b03e789002ce183c021c950d9e6bc7b1dba70e5c5a7f3e1ccac097a2083", func := "loop.example/powercontrol/laws.FnExactSwitchLine", spec := "fnExactSwitchLine", apart := false }
def FnExactSwitchLineSaid : Prop := fnExactSwitchLineRow.holds Try.pinned (OpenSpec.ofChange fnExactSwitchLineSpec)

/-- ITS FALSE NEIGHBOUR: 'it returns false'. Refute it at one input. -/
def fnExactSwitchLineWrong : ChangeSpec := { name := "fnExactSwitchLine", fn := fun _ => fun
  | [d1, d2, d3, d4] => { results := [.lit (.bool false)], args := [d1, d2, d3, d4] }
  | _ => none }
def FnExactSwitchLineWrongFalsely : Prop := fnExactSwitchLineRow.holds Try.pinned (OpenSpec.ofChange fnExactSwitchLineWrong)

/- THE SECOND FORM. 'bulk': how many values and letters a reading holds, each counted each time it is reached (what is shared counts as often as it is met; a slice's spare places count too). A statement '..UptoSaid' is the law's where the arguments, and the package variables that the reading takes, are together of bulk at most 1048576: NARROWER than '..Said'. Prove '..Said' where nothing that the law and all that it calls make is longer than what came in: it says more and counts as full. Else prove '..UptoSaid'. A law counts once. -/
mutual
def uptoBulk {H : Type} : DataW H → Nat
  | .lit (.string bytes) => bytes.length + 1
  | .lit _ => 1
  | .nil => 1
  | .ptr d => uptoBulk d + 1
  | .slice elems spare => uptoBulkAll elems + uptoBulkAll spare + 1
  | .agg parts => uptoBulkAll parts + 1
  | .iface _ d => uptoBulk d + 1
  | .map entries => uptoBulkEntries entries + 1
  | .held _ => 1
def uptoBulkAll {H : Type} : List (DataW H) → Nat
  | [] => 0
  | d :: r => uptoBulk d + uptoBulkAll r
def uptoBulkEntries {H : Type} : List (Lit × DataW H) → Nat
  | [] => 0
  | x :: r => uptoBulkEntry x + uptoBulkEntries r
def uptoBulkEntry {H : Type} : Lit × DataW H → Nat
  | (.string bytes, d) => bytes.length + uptoBulk d + 1
  | (_, d) => uptoBulk d + 1
 end
def uptoSmall : (H : Type) → List (DataW H) → Bool := fun _ ds => decide (uptoBulkAll ds ≤ 1048576)
def OpenSpec.upto (s : _root_.Go.ChangeSpec) : _root_.Go.OpenSpec := { _root_.Go.OpenSpec.ofChange s with cond := some uptoSmall }

/-- 'laws.FnExactConstants', WHERE WHAT IT READS IS OF BULK AT MOST 1048576: true; the input reads as it did. -/
def fnExactConstantsUptoRow : OpenClaim := { program := "ytcchhgpdallpmaa", sum := "d0a99b03e789002ce183c021c950d9e6bc7b1dba70e5c5a7f3e1ccac097a2083", func := "loop.example/powercontrol/laws.FnExactConstants", spec := "fnExactConstants", apart := false, narrowed := true }
def FnExactConstantsUptoSaid : Prop := fnExactConstantsUptoRow.holds Try.pinned (OpenSpec.upto fnExactConstantsSpec)

/-- 'laws.FnExactStateNumber', WHERE WHAT IT READS IS OF BULK AT MOST 1048576: true; the input reads as it did. -/
def fnExactStateNumberUptoRow : OpenClaim := { program := "ytcchhgpdallpmaa", sum := "d0a99b03e789002ce183c021c950d9e6bc7b1dba70e5c5a7f3e1ccac097a2083", func := "loop.example/powercontrol/laws.FnExactStateNumber", spec := "fnExactStateNumber", apart := false, narrowed := true }
def FnExactStateNumberUptoSaid : Prop := fnExactStateNumberUptoRow.holds Try.pinned (OpenSpec.upto fnExactStateNumberSpec)

/-- 'laws.FnExactStateOf', WHERE WHAT IT READS IS OF BULK AT MOST 1048576: true; the input reads as it did. -/
def fnExactStateOfUptoRow : OpenClaim := { program := "ytcchhgpdallpmaa", sum := "d0a99b03e789002ce183c021c950d9e6bc7b1dba70e5c5a7f3e1ccac097a2083", func := "loop.example/powercontrol/laws.FnExactStateOf", spec := "fnExactStateOf", apart := false, narrowed := true }
def FnExactStateOfUptoSaid : Prop := fnExactStateOfUptoRow.holds Try.pinned (OpenSpec.upto fnExactStateOfSpec)

/-- 'laws.FnExactChanges', WHERE WHAT IT READS IS OF BULK AT MOST 1048576: true; the input reads as it did. -/
def fnExactChangesUptoRow : OpenClaim := { program := "ytcchhgpdallpmaa", sum := "d0a99b03e789002ce183c021c950d9e6bc7b1dba70e5c5a7f3e1ccac097a2083", func := "loop.example/powercontrol/laws.FnExactChanges", spec := "fnExactChanges", apart := false, narrowed := true }
def FnExactChangesUptoSaid : Prop := fnExactChangesUptoRow.holds Try.pinned (OpenSpec.upto fnExactChangesSpec)

/-- 'laws.FnExactChangeAll', WHERE WHAT IT READS IS OF BULK AT MOST 1048576: true; the input reads as it did. -/
def fnExactChangeAllUptoRow : OpenClaim := { program := "ytcchhgpdallpmaa", sum := "d0a99b03e789002ce183c021c950d9e6bc7b1dba70e5c5a7f3e1ccac097a2083", func := "loop.example/powercontrol/laws.FnExactChangeAll", spec := "fnExactChangeAll", apart := false, narrowed := true }
def FnExactChangeAllUptoSaid : Prop := fnExactChangeAllUptoRow.holds Try.pinned (OpenSpec.upto fnExactChangeAllSpec)

/-- 'laws.FnExactNetValid', WHERE WHAT IT READS IS OF BULK AT MOST 1048576: true; the input reads as it did. -/
def fnExactNetValidUptoRow : OpenClaim := { program := "ytcchhgpdallpmaa", sum := "d0a99b03e789002ce183c021c950d9e6bc7b1dba70e5c5a7f3e1ccac097a2083", func := "loop.example/powercontrol/laws.FnExactNetValid", spec := "fnExactNetValid", apart := false, narrowed := true }
def FnExactNetValidUptoSaid : Prop := fnExactNetValidUptoRow.holds Try.pinned (OpenSpec.upto fnExactNetValidSpec)

/-- 'laws.FnExactLineBetween', WHERE WHAT IT READS IS OF BULK AT MOST 1048576: true; the input reads as it did. -/
def fnExactLineBetweenUptoRow : OpenClaim := { program := "ytcchhgpdallpmaa", sum := "d0a99b03e789002ce183c021c950d9e6bc7b1dba70e5c5a7f3e1ccac097a2083", func := "loop.example/powercontrol/laws.FnExactLineBetween", spec := "fnExactLineBetween", apart := false, narrowed := true }
def FnExactLineBetweenUptoSaid : Prop := fnExactLineBetweenUptoRow.holds Try.pinned (OpenSpec.upto fnExactLineBetweenSpec)

/-- 'laws.FnExactStateValid', WHERE WHAT IT READS IS OF BULK AT MOST 1048576: true; the input reads as it did. -/
def fnExactStateValidUptoRow : OpenClaim := { program := "ytcchhgpdallpmaa", sum := "d0a99b03e789002ce183c021c950d9e6bc7b1dba70e5c5a7f3e1ccac097a2083", func := "loop.example/powercontrol/laws.FnExactStateValid", spec := "fnExactStateValid", apart := false, narrowed := true }
def FnExactStateValidUptoSaid : Prop := fnExactStateValidUptoRow.holds Try.pinned (OpenSpec.upto fnExactStateValidSpec)

/-- 'laws.FnExactOtherEnd', WHERE WHAT IT READS IS OF BULK AT MOST 1048576: true; the input reads as it did. -/
def fnExactOtherEndUptoRow : OpenClaim := { program := "ytcchhgpdallpmaa", sum := "d0a99b03e789002ce183c021c950d9e6bc7b1dba70e5c5a7f3e1ccac097a2083", func := "loop.example/powercontrol/laws.FnExactOtherEnd", spec := "fnExactOtherEnd", apart := false, narrowed := true }
def FnExactOtherEndUptoSaid : Prop := fnExactOtherEndUptoRow.holds Try.pinned (OpenSpec.upto fnExactOtherEndSpec)

/-- 'laws.FnExactBusesValid', WHERE WHAT IT READS IS OF BULK AT MOST 1048576: true; the input reads as it did. -/
def fnExactBusesValidUptoRow : OpenClaim := { program := "ytcchhgpdallpmaa", sum := "d0a99b03e789002ce183c021c950d9e6bc7b1dba70e5c5a7f3e1ccac097a2083", func := "loop.example/powercontrol/laws.FnExactBusesValid", spec := "fnExactBusesValid", apart := false, narrowed := true }
def FnExactBusesValidUptoSaid : Prop := fnExactBusesValidUptoRow.holds Try.pinned (OpenSpec.upto fnExactBusesValidSpec)

/-- 'laws.FnExactLinesAt', WHERE WHAT IT READS IS OF BULK AT MOST 1048576: true; the input reads as it did. -/
def fnExactLinesAtUptoRow : OpenClaim := { program := "ytcchhgpdallpmaa", sum := "d0a99b03e789002ce183c021c950d9e6bc7b1dba70e5c5a7f3e1ccac097a2083", func := "loop.example/powercontrol/laws.FnExactLinesAt", spec := "fnExactLinesAt", apart := false, narrowed := true }
def FnExactLinesAtUptoSaid : Prop := fnExactLinesAtUptoRow.holds Try.pinned (OpenSpec.upto fnExactLinesAtSpec)

/-- 'laws.FnExactSwitchLine', WHERE WHAT IT READS IS OF BULK AT MOST 1048576: true; the input reads as it did. -/
def fnExactSwitchLineUptoRow : OpenClaim := { program := "ytcchhgpdallpmaa", sum := "d0a99b03e789002ce183c021c950d9e6bc7b1dba70e5c5a7f3e1ccac097a2083", func := "loop.example/powercontrol/laws.FnExactSwitchLine", spec := "fnExactSwitchLine", apart := false, narrowed := true }
def FnExactSwitchLineUptoSaid : Prop := fnExactSwitchLineUptoRow.holds Try.pinned (OpenSpec.upto fnExactSwitchLineSpec)

end Rows
end Go.Proofs.Ytcchhgpdallpmaa
