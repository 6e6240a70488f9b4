/-
  DERIVED. GIVEN WITH THE SEED: THE CARDS: each row of YtlahlfjhfmldaaaDoorRows.lean that lists a variable, with what it lists TIED to the program's text (the seventh form; the later family's looks); each row that meets fmt, with fmt's text TOLD by the authors' own Lean function (tested against real Go, not proved from fmt's source: count such statements apart). THE CARD IS WHAT COUNTS. Prove the row's statement (the work); the ties are given (YtlahlfjhfmldaaaDoorTie.lean); close each card by the builder's one call (the guide's Derived/Test/ToyasCard.lean, 'card_holds'). Laid BY PROGRAM, IN A SANDBOX (cutbox-door.mjs). By AI agents, Wed Nov 11 2026. No macro, syntax, notation, axiom, sorry.
-/
import Derived.Test.YtlahlfjhfmldaaaDoorRows
import GoSem.ClaimSeven
namespace Go.Proofs.YtlahlfjhfmldaaaDoor
namespace Rows

/-- THE TIED CARD OF 'laws.FnNetValid'. -/
def fnNetValidCard : Claim7 := { stood := { row := fnNetValidRow, standIns := [], harness := (true, "5682669de06a636c975aa05c4dce69049315269e87ad6db3d29449ea7a5e2f00"), looks := false }, kinds := [], alts := [], laidByText := true, laidKinds := [.data, .data, .data], laidTests := true, laidLooks := .later }
def FnNetValidCardSaid : Prop := Claim7.holds Tryd.pinned (.plain (OpenSpec.ofChange fnNetValidSpec)) fnNetValidCard

/-- THE TIED CARD OF 'laws.FnStateOf'. -/
def fnStateOfCard : Claim7 := { stood := { row := fnStateOfRow, standIns := [], harness := (true, "5682669de06a636c975aa05c4dce69049315269e87ad6db3d29449ea7a5e2f00"), looks := false }, kinds := [], alts := [], laidByText := true, laidKinds := [.data, .data, .data], laidTests := true, laidLooks := .later }
def FnStateOfCardSaid : Prop := Claim7.holds Tryd.pinned (.plain (OpenSpec.ofChange fnStateOfSpec)) fnStateOfCard

/-- THE TIED CARD OF 'laws.FnExactNetText'. -/
def fnExactNetTextCard : Claim7 := { stood := { row := fnExactNetTextRow, standIns := [], harness := (true, "5682669de06a636c975aa05c4dce69049315269e87ad6db3d29449ea7a5e2f00"), looks := false }, kinds := [], alts := [], laidByText := true, laidKinds := [.data, .data, .data], laidTests := true, laidLooks := .later }
def FnExactNetTextCardSaid : Prop := Claim7.holds Tryd.pinned (.plain (OpenSpec.ofChange fnExactNetTextSpec)) fnExactNetTextCard

/-- THE TIED CARD OF 'laws.FnStateValid'. -/
def fnStateValidCard : Claim7 := { stood := { row := fnStateValidRow, standIns := [], harness := (true, "5682669de06a636c975aa05c4dce69049315269e87ad6db3d29449ea7a5e2f00"), looks := false }, kinds := [], alts := [], laidByText := true, laidKinds := [.data, .data, .data], laidTests := true, laidLooks := .later }
def FnStateValidCardSaid : Prop := Claim7.holds Tryd.pinned (.plain (OpenSpec.ofChange fnStateValidSpec)) fnStateValidCard

/-- THE TIED CARD OF 'laws.FnLineBetween'. -/
def fnLineBetweenCard : Claim7 := { stood := { row := fnLineBetweenRow, standIns := [], harness := (true, "5682669de06a636c975aa05c4dce69049315269e87ad6db3d29449ea7a5e2f00"), looks := false }, kinds := [], alts := [], laidByText := true, laidKinds := [.data, .data, .data], laidTests := true, laidLooks := .later }
def FnLineBetweenCardSaid : Prop := Claim7.holds Tryd.pinned (.plain (OpenSpec.ofChange fnLineBetweenSpec)) fnLineBetweenCard

/-- THE TIED CARD OF 'laws.FnOtherEnd'. -/
def fnOtherEndCard : Claim7 := { stood := { row := fnOtherEndRow, standIns := [], harness := (true, "5682669de06a636c975aa05c4dce69049315269e87ad6db3d29449ea7a5e2f00"), looks := false }, kinds := [], alts := [], laidByText := true, laidKinds := [.data, .data, .data], laidTests := true, laidLooks := .later }
def FnOtherEndCardSaid : Prop := Claim7.holds Tryd.pinned (.plain (OpenSpec.ofChange fnOtherEndSpec)) fnOtherEndCard

/-- THE TIED CARD OF 'laws.FnLinesAt'. -/
def fnLinesAtCard : Claim7 := { stood := { row := fnLinesAtRow, standIns := [], harness := (true, "5682669de06a636c975aa05c4dce69049315269e87ad6db3d29449ea7a5e2f00"), looks := false }, kinds := [], alts := [], laidByText := true, laidKinds := [.data, .data, .data], laidTests := true, laidLooks := .later }
def FnLinesAtCardSaid : Prop := Claim7.holds Tryd.pinned (.plain (OpenSpec.ofChange fnLinesAtSpec)) fnLinesAtCard

/-- THE TIED CARD OF 'laws.FnBusesValid'. -/
def fnBusesValidCard : Claim7 := { stood := { row := fnBusesValidRow, standIns := [], harness := (true, "5682669de06a636c975aa05c4dce69049315269e87ad6db3d29449ea7a5e2f00"), looks := false }, kinds := [], alts := [], laidByText := true, laidKinds := [.data, .data, .data], laidTests := true, laidLooks := .later }
def FnBusesValidCardSaid : Prop := Claim7.holds Tryd.pinned (.plain (OpenSpec.ofChange fnBusesValidSpec)) fnBusesValidCard

/-- THE TIED CARD OF 'laws.FnStateNumber'. -/
def fnStateNumberCard : Claim7 := { stood := { row := fnStateNumberRow, standIns := [], harness := (true, "5682669de06a636c975aa05c4dce69049315269e87ad6db3d29449ea7a5e2f00"), looks := false }, kinds := [], alts := [], laidByText := true, laidKinds := [.data, .data, .data], laidTests := true, laidLooks := .later }
def FnStateNumberCardSaid : Prop := Claim7.holds Tryd.pinned (.plain (OpenSpec.ofChange fnStateNumberSpec)) fnStateNumberCard

/-- THE SECOND FORM's CARD OF 'laws.FnNetValid'. -/
def fnNetValidUptoCard : Claim7 := { stood := { row := fnNetValidUptoRow, standIns := [], harness := (true, "5682669de06a636c975aa05c4dce69049315269e87ad6db3d29449ea7a5e2f00"), looks := false }, kinds := [], alts := [], laidByText := true, laidKinds := [.data, .data, .data], laidTests := true, laidLooks := .later }
def FnNetValidUptoCardSaid : Prop := Claim7.holds Tryd.pinned (.plain (OpenSpec.upto fnNetValidSpec)) fnNetValidUptoCard

/-- THE SECOND FORM's CARD OF 'laws.FnStateOf'. -/
def fnStateOfUptoCard : Claim7 := { stood := { row := fnStateOfUptoRow, standIns := [], harness := (true, "5682669de06a636c975aa05c4dce69049315269e87ad6db3d29449ea7a5e2f00"), looks := false }, kinds := [], alts := [], laidByText := true, laidKinds := [.data, .data, .data], laidTests := true, laidLooks := .later }
def FnStateOfUptoCardSaid : Prop := Claim7.holds Tryd.pinned (.plain (OpenSpec.upto fnStateOfSpec)) fnStateOfUptoCard

/-- THE SECOND FORM's CARD OF 'laws.FnExactNetText'. -/
def fnExactNetTextUptoCard : Claim7 := { stood := { row := fnExactNetTextUptoRow, standIns := [], harness := (true, "5682669de06a636c975aa05c4dce69049315269e87ad6db3d29449ea7a5e2f00"), looks := false }, kinds := [], alts := [], laidByText := true, laidKinds := [.data, .data, .data], laidTests := true, laidLooks := .later }
def FnExactNetTextUptoCardSaid : Prop := Claim7.holds Tryd.pinned (.plain (OpenSpec.upto fnExactNetTextSpec)) fnExactNetTextUptoCard

/-- THE SECOND FORM's CARD OF 'laws.FnStateValid'. -/
def fnStateValidUptoCard : Claim7 := { stood := { row := fnStateValidUptoRow, standIns := [], harness := (true, "5682669de06a636c975aa05c4dce69049315269e87ad6db3d29449ea7a5e2f00"), looks := false }, kinds := [], alts := [], laidByText := true, laidKinds := [.data, .data, .data], laidTests := true, laidLooks := .later }
def FnStateValidUptoCardSaid : Prop := Claim7.holds Tryd.pinned (.plain (OpenSpec.upto fnStateValidSpec)) fnStateValidUptoCard

/-- THE SECOND FORM's CARD OF 'laws.FnLineBetween'. -/
def fnLineBetweenUptoCard : Claim7 := { stood := { row := fnLineBetweenUptoRow, standIns := [], harness := (true, "5682669de06a636c975aa05c4dce69049315269e87ad6db3d29449ea7a5e2f00"), looks := false }, kinds := [], alts := [], laidByText := true, laidKinds := [.data, .data, .data], laidTests := true, laidLooks := .later }
def FnLineBetweenUptoCardSaid : Prop := Claim7.holds Tryd.pinned (.plain (OpenSpec.upto fnLineBetweenSpec)) fnLineBetweenUptoCard

/-- THE SECOND FORM's CARD OF 'laws.FnOtherEnd'. -/
def fnOtherEndUptoCard : Claim7 := { stood := { row := fnOtherEndUptoRow, standIns := [], harness := (true, "5682669de06a636c975aa05c4dce69049315269e87ad6db3d29449ea7a5e2f00"), looks := false }, kinds := [], alts := [], laidByText := true, laidKinds := [.data, .data, .data], laidTests := true, laidLooks := .later }
def FnOtherEndUptoCardSaid : Prop := Claim7.holds Tryd.pinned (.plain (OpenSpec.upto fnOtherEndSpec)) fnOtherEndUptoCard

/-- THE SECOND FORM's CARD OF 'laws.FnLinesAt'. -/
def fnLinesAtUptoCard : Claim7 := { stood := { row := fnLinesAtUptoRow, standIns := [], harness := (true, "5682669de06a636c975aa05c4dce69049315269e87ad6db3d29449ea7a5e2f00"), looks := false }, kinds := [], alts := [], laidByText := true, laidKinds := [.data, .data, .data], laidTests := true, laidLooks := .later }
def FnLinesAtUptoCardSaid : Prop := Claim7.holds Tryd.pinned (.plain (OpenSpec.upto fnLinesAtSpec)) fnLinesAtUptoCard

/-- THE SECOND FORM's CARD OF 'laws.FnBusesValid'. -/
def fnBusesValidUptoCard : Claim7 := { stood := { row := fnBusesValidUptoRow, standIns := [], harness := (true, "5682669de06a636c975aa05c4dce69049315269e87ad6db3d29449ea7a5e2f00"), looks := false }, kinds := [], alts := [], laidByText := true, laidKinds := [.data, .data, .data], laidTests := true, laidLooks := .later }
def FnBusesValidUptoCardSaid : Prop := Claim7.holds Tryd.pinned (.plain (OpenSpec.upto fnBusesValidSpec)) fnBusesValidUptoCard

/-- THE SECOND FORM's CARD OF 'laws.FnStateNumber'. -/
def fnStateNumberUptoCard : Claim7 := { stood := { row := fnStateNumberUptoRow, standIns := [], harness := (true, "5682669de06a636c975aa05c4dce69049315269e87ad6db3d29449ea7a5e2f00"), looks := false }, kinds := [], alts := [], laidByText := true, laidKinds := [.data, .data, .data], laidTests := true, laidLooks := .later }
def FnStateNumberUptoCardSaid : Prop := Claim7.holds Tryd.pinned (.plain (OpenSpec.upto fnStateNumberSpec)) fnStateNumberUptoCard
end Rows
end Go.Proofs.YtlahlfjhfmldaaaDoor
