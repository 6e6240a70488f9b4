/-
  No cell of these rows narrows 'for every input' (looked for: loops, veiled, ifaces, maps, wideKeys, modest, calm, conditions, laid).
  DERIVED. THE GIVEN ROWS OF THIS SEAT. 3 by the template 'for every input the law returns true; each argument reads behind the call as it read before'; 0 by the template 'total and deterministic' (their statements: YtlahlfjhfmldaaaTotals.lean).
  GIVEN WITH THE SEED: the statements are not yours to turn. If you find one false, say at which input.
  Laid BY PROGRAM, IN A SANDBOX (cutbox-rows.mjs): the forced cells as the released guide's own fill.sh prints them over the translation 7d827d25009ba174… (all of the seat's roots in one cut). By AI agents, Wed Nov 11 2026. No macro, syntax, notation, axiom, sorry.
-/
import Derived.Test.YtlahlfjhfmldaaaChecked
import GoSem.Claim
import GoSem.ClaimJoined
import GoSem.ClaimMapViews
import Derived.JoinedTies
import Derived.KernelRfl
namespace Go.Proofs.Ytlahlfjhfmldaaa
/- THE CELL 'sum', in the pinned program and in every row, IS THE sha256 OF THE DUMP (.gsa) THAT YtlahlfjhfmldaaaProg.lean LOADS. Nothing in Lean hashes anything: it is a label: what it is worth is what the hold of that sum in a sandbox is worth. -/
noncomputable def Try.pinned : Pinned := { name := "ytlahlfjhfmldaaa", sum := "7d827d25009ba1740d891cd4990acccf85cdc0d75c105885d3e64f974a81b7c1", checked := Try.checked }
namespace Rows
def none {H : Type} : Left H := { results := [], args := [] }

/-- 'laws.FnExactAliveBuses': WHATEVER THE INPUT: true; the input reads as it did. -/
def fnExactAliveBusesSpec : ChangeSpec := { name := "fnExactAliveBuses", fn := fun _ => fun
  | [d1, d2, d3] => { results := [.lit (.bool true)], args := [d1, d2, d3] }
  | _ => none }
def fnExactAliveBusesRow : OpenClaim := { program := "ytlahlfjhfmldaaa", sum := "7d827d25009ba1740d891cd4990acccf85cdc0d75c105885d3e64f974a81b7c1", func := "loop.example/powercontrol/laws.FnExactAliveBuses", spec := "fnExactAliveBuses", apart := false }
def FnExactAliveBusesSaid : Prop := fnExactAliveBusesRow.holds Try.pinned (OpenSpec.ofChange fnExactAliveBusesSpec)

/-- ITS FALSE NEIGHBOUR: 'it returns false'. Refute it at one input. -/
def fnExactAliveBusesWrong : ChangeSpec := { name := "fnExactAliveBuses", fn := fun _ => fun
  | [d1, d2, d3] => { results := [.lit (.bool false)], args := [d1, d2, d3] }
  | _ => none }
def FnExactAliveBusesWrongFalsely : Prop := fnExactAliveBusesRow.holds Try.pinned (OpenSpec.ofChange fnExactAliveBusesWrong)

/-- 'laws.FnExactRadial': WHATEVER THE INPUT: true; the input reads as it did. -/
def fnExactRadialSpec : ChangeSpec := { name := "fnExactRadial", fn := fun _ => fun
  | [d1, d2, d3] => { results := [.lit (.bool true)], args := [d1, d2, d3] }
  | _ => none }
def fnExactRadialRow : OpenClaim := { program := "ytlahlfjhfmldaaa", sum := "7d827d25009ba1740d891cd4990acccf85cdc0d75c105885d3e64f974a81b7c1", func := "loop.example/powercontrol/laws.FnExactRadial", spec := "fnExactRadial", apart := false }
def FnExactRadialSaid : Prop := fnExactRadialRow.holds Try.pinned (OpenSpec.ofChange fnExactRadialSpec)

/-- ITS FALSE NEIGHBOUR: 'it returns false'. Refute it at one input. -/
def fnExactRadialWrong : ChangeSpec := { name := "fnExactRadial", fn := fun _ => fun
  | [d1, d2, d3] => { results := [.lit (.bool false)], args := [d1, d2, d3] }
  | _ => none }
def FnExactRadialWrongFalsely : Prop := fnExactRadialRow.holds Try.pinned (OpenSpec.ofChange fnExactRadialWrong)

/-- 'laws.FnExactFedBy': WHATEVER THE INPUT: true; the input reads as it did. -/
def fnExactFedBySpec : ChangeSpec := { name := "fnExactFedBy", fn := fun _ => fun
  | [d1, d2, d3, d4] => { results := [.lit (.bool true)], args := [d1, d2, d3, d4] }
  | _ => none }
def fnExactFedByRow : OpenClaim := { program := "ytlahlfjhfmldaaa", sum := "7d827d25009ba1740d891cd4990acccf85cdc0d75c105885d3e64f974a81b7c1", func := "loop.example/powercontrol/laws.FnExactFedBy", spec := "fnExactFedBy", apart := false }
def FnExactFedBySaid : Prop := fnExactFedByRow.holds Try.pinned (OpenSpec.ofChange fnExactFedBySpec)

/-- ITS FALSE NEIGHBOUR: 'it returns false'. Refute it at one input. -/
def fnExactFedByWrong : ChangeSpec := { name := "fnExactFedBy", fn := fun _ => fun
  | [d1, d2, d3, d4] => { results := [.lit (.bool false)], args := [d1, d2, d3, d4] }
  | _ => none }
def FnExactFedByWrongFalsely : Prop := fnExactFedByRow.holds Try.pinned (OpenSpec.ofChange fnExactFedByWrong)

/- THE SECOND FORM. 'bulk': how many values and letters a reading holds, each counted each time it is reached (what is shared counts as often as it is met; a slice's spare places count too). A statement '..UptoSaid' is the law's where the arguments, and the package variables that the reading takes, are together of bulk at most 1048576: NARROWER than '..Said'. Prove '..Said' where nothing that the law and all that it calls make is longer than what came in: it says more and counts as full. Else prove '..UptoSaid'. A law counts once. -/
mutual
def uptoBulk {H : Type} : DataW H → Nat
  | .lit (.string bytes) => bytes.length + 1
  | .lit _ => 1
  | .nil => 1
  | .ptr d => uptoBulk d + 1
  | .slice elems spare => uptoBulkAll elems + uptoBulkAll spare + 1
  | .agg parts => uptoBulkAll parts + 1
  | .iface _ d => uptoBulk d + 1
  | .map entries => uptoBulkEntries entries + 1
  | .held _ => 1
def uptoBulkAll {H : Type} : List (DataW H) → Nat
  | [] => 0
  | d :: r => uptoBulk d + uptoBulkAll r
def uptoBulkEntries {H : Type} : List (Lit × DataW H) → Nat
  | [] => 0
  | x :: r => uptoBulkEntry x + uptoBulkEntries r
def uptoBulkEntry {H : Type} : Lit × DataW H → Nat
  | (.string bytes, d) => bytes.length + uptoBulk d + 1
  | (_, d) => uptoBulk d + 1
 end
def uptoSmall : (H : Type) → List (DataW H) → Bool := fun _ ds => decide (uptoBulkAll ds ≤ 1048576)
def OpenSpec.upto (s : _root_.Go.ChangeSpec) : _root_.Go.OpenSpec := { _root_.Go.OpenSpec.ofChange s with cond := some uptoSmall }

/-- 'laws.FnExactAliveBuses', WHERE WHAT IT READS IS OF BULK AT MOST 1048576: true; the input reads as it did. -/
def fnExactAliveBusesUptoRow : OpenClaim := { program := "ytlahlfjhfmldaaa", sum := "7d827d25009ba1740d891cd4990acccf85cdc0d75c105885d3e64f974a81b7c1", func := "loop.example/powercontrol/laws.FnExactAliveBuses", spec := "fnExactAliveBuses", apart := false, narrowed := true }
def FnExactAliveBusesUptoSaid : Prop := fnExactAliveBusesUptoRow.holds Try.pinned (OpenSpec.upto fnExactAliveBusesSpec)

/-- 'laws.FnExactRadial', WHERE WHAT IT READS IS OF BULK AT MOST 1048576: true; the input reads as it did. -/
def fnExactRadialUptoRow : OpenClaim := { program := "ytlahlfjhfmldaaa", sum := "7d827d25009ba1740d891cd4990acccf85cdc0d75c105885d3e64f974a81b7c1", func := "loop.example/powercontrol/laws.FnExactRadial", spec := "fnExactRadial", apart := false, narrowed := true }
def FnExactRadialUptoSaid : Prop := fnExactRadialUptoRow.holds Try.pinned (OpenSpec.upto fnExactRadialSpec)

/-- 'laws.FnExactFedBy', WHERE WHAT IT READS IS OF BULK AT MOST 1048576: true; the input reads as it did. -/
def fnExactFedByUptoRow : OpenClaim := { program := "ytlahlfjhfmldaaa", sum := "7d827d25009ba1740d891cd4990acccf85cdc0d75c105885d3e64f974a81b7c1", func := "loop.example/powercontrol/laws.FnExactFedBy", spec := "fnExactFedBy", apart := false, narrowed := true }
def FnExactFedByUptoSaid : Prop := fnExactFedByUptoRow.holds Try.pinned (OpenSpec.upto fnExactFedBySpec)

end Rows
end Go.Proofs.Ytlahlfjhfmldaaa
