/-
  DERIVED. GIVEN WITH THE SEED: THE CARDS: each row of YthkdkjmnnpcdhaaDoorRows.lean that lists a variable, with what it lists TIED to the program's text (the seventh form; the later family's looks); each row that meets fmt, with fmt's text TOLD by the authors' own Lean function (tested against real Go, not proved from fmt's source: count such statements apart). THE CARD IS WHAT COUNTS. Prove the row's statement (the work); the ties are given (YthkdkjmnnpcdhaaDoorTie.lean); close each card by the builder's one call (the guide's Derived/Test/ToyasCard.lean, 'card_holds'). Laid BY PROGRAM, IN A SANDBOX (cutbox-door.mjs). By AI agents, Wed Nov 11 2026. No macro, syntax, notation, axiom, sorry.
-/
import Derived.Test.YthkdkjmnnpcdhaaDoorRows
import GoSem.ClaimSeven
namespace Go.Proofs.YthkdkjmnnpcdhaaDoor
namespace Rows

/-- THE TIED CARD OF 'laws.FnChangeAll'. -/
def fnChangeAllCard : Claim7 := { stood := { row := fnChangeAllRow, standIns := [], harness := (true, "806470989b4861397ead9c5b73db707f10b429d8195b014afae7a1d5d4375a2d"), looks := false }, kinds := [], alts := [], laidByText := true, laidKinds := [.data, .data, .data], laidTests := true, laidLooks := .later }
def FnChangeAllCardSaid : Prop := Claim7.holds Tryd.pinned (.plain (OpenSpec.ofChange fnChangeAllSpec)) fnChangeAllCard

/-- THE TIED CARD OF 'laws.FnChanges'. -/
def fnChangesCard : Claim7 := { stood := { row := fnChangesRow, standIns := [], harness := (true, "806470989b4861397ead9c5b73db707f10b429d8195b014afae7a1d5d4375a2d"), looks := false }, kinds := [], alts := [], laidByText := true, laidKinds := [.data, .data, .data], laidTests := true, laidLooks := .later }
def FnChangesCardSaid : Prop := Claim7.holds Tryd.pinned (.plain (OpenSpec.ofChange fnChangesSpec)) fnChangesCard

/-- THE TIED CARD OF 'laws.FnSwitchLine'. -/
def fnSwitchLineCard : Claim7 := { stood := { row := fnSwitchLineRow, standIns := [], harness := (true, "806470989b4861397ead9c5b73db707f10b429d8195b014afae7a1d5d4375a2d"), looks := false }, kinds := [], alts := [], laidByText := true, laidKinds := [.data, .data, .data], laidTests := true, laidLooks := .later }
def FnSwitchLineCardSaid : Prop := Claim7.holds Tryd.pinned (.plain (OpenSpec.ofChange fnSwitchLineSpec)) fnSwitchLineCard

/-- THE TIED CARD OF 'laws.FnSameIsland'. -/
def fnSameIslandCard : Claim7 := { stood := { row := fnSameIslandRow, standIns := [], harness := (true, "806470989b4861397ead9c5b73db707f10b429d8195b014afae7a1d5d4375a2d"), looks := false }, kinds := [], alts := [], laidByText := true, laidKinds := [.data, .data, .data], laidTests := true, laidLooks := .later }
def FnSameIslandCardSaid : Prop := Claim7.holds Tryd.pinned (.plain (OpenSpec.ofChange fnSameIslandSpec)) fnSameIslandCard

/-- THE TIED CARD OF 'laws.FnReached'. -/
def fnReachedCard : Claim7 := { stood := { row := fnReachedRow, standIns := [], harness := (true, "806470989b4861397ead9c5b73db707f10b429d8195b014afae7a1d5d4375a2d"), looks := false }, kinds := [], alts := [], laidByText := true, laidKinds := [.data, .data, .data], laidTests := true, laidLooks := .later }
def FnReachedCardSaid : Prop := Claim7.holds Tryd.pinned (.plain (OpenSpec.ofChange fnReachedSpec)) fnReachedCard

/-- THE TIED CARD OF 'laws.FnIslandsOf'. -/
def fnIslandsOfCard : Claim7 := { stood := { row := fnIslandsOfRow, standIns := [], harness := (true, "806470989b4861397ead9c5b73db707f10b429d8195b014afae7a1d5d4375a2d"), looks := false }, kinds := [], alts := [], laidByText := true, laidKinds := [.data, .data, .data], laidTests := true, laidLooks := .later }
def FnIslandsOfCardSaid : Prop := Claim7.holds Tryd.pinned (.plain (OpenSpec.ofChange fnIslandsOfSpec)) fnIslandsOfCard

/-- THE TIED CARD OF 'laws.FnIslandNumbers'. -/
def fnIslandNumbersCard : Claim7 := { stood := { row := fnIslandNumbersRow, standIns := [], harness := (true, "806470989b4861397ead9c5b73db707f10b429d8195b014afae7a1d5d4375a2d"), looks := false }, kinds := [], alts := [], laidByText := true, laidKinds := [.data, .data, .data], laidTests := true, laidLooks := .later }
def FnIslandNumbersCardSaid : Prop := Claim7.holds Tryd.pinned (.plain (OpenSpec.ofChange fnIslandNumbersSpec)) fnIslandNumbersCard

/-- THE TIED CARD OF 'laws.FnHasCycle'. -/
def fnHasCycleCard : Claim7 := { stood := { row := fnHasCycleRow, standIns := [], harness := (true, "806470989b4861397ead9c5b73db707f10b429d8195b014afae7a1d5d4375a2d"), looks := false }, kinds := [], alts := [], laidByText := true, laidKinds := [.data, .data, .data], laidTests := true, laidLooks := .later }
def FnHasCycleCardSaid : Prop := Claim7.holds Tryd.pinned (.plain (OpenSpec.ofChange fnHasCycleSpec)) fnHasCycleCard

/-- THE SECOND FORM's CARD OF 'laws.FnChangeAll'. -/
def fnChangeAllUptoCard : Claim7 := { stood := { row := fnChangeAllUptoRow, standIns := [], harness := (true, "806470989b4861397ead9c5b73db707f10b429d8195b014afae7a1d5d4375a2d"), looks := false }, kinds := [], alts := [], laidByText := true, laidKinds := [.data, .data, .data], laidTests := true, laidLooks := .later }
def FnChangeAllUptoCardSaid : Prop := Claim7.holds Tryd.pinned (.plain (OpenSpec.upto fnChangeAllSpec)) fnChangeAllUptoCard

/-- THE SECOND FORM's CARD OF 'laws.FnChanges'. -/
def fnChangesUptoCard : Claim7 := { stood := { row := fnChangesUptoRow, standIns := [], harness := (true, "806470989b4861397ead9c5b73db707f10b429d8195b014afae7a1d5d4375a2d"), looks := false }, kinds := [], alts := [], laidByText := true, laidKinds := [.data, .data, .data], laidTests := true, laidLooks := .later }
def FnChangesUptoCardSaid : Prop := Claim7.holds Tryd.pinned (.plain (OpenSpec.upto fnChangesSpec)) fnChangesUptoCard

/-- THE SECOND FORM's CARD OF 'laws.FnSwitchLine'. -/
def fnSwitchLineUptoCard : Claim7 := { stood := { row := fnSwitchLineUptoRow, standIns := [], harness := (true, "806470989b4861397ead9c5b73db707f10b429d8195b014afae7a1d5d4375a2d"), looks := false }, kinds := [], alts := [], laidByText := true, laidKinds := [.data, .data, .data], laidTests := true, laidLooks := .later }
def FnSwitchLineUptoCardSaid : Prop := Claim7.holds Tryd.pinned (.plain (OpenSpec.upto fnSwitchLineSpec)) fnSwitchLineUptoCard

/-- THE SECOND FORM's CARD OF 'laws.FnSameIsland'. -/
def fnSameIslandUptoCard : Claim7 := { stood := { row := fnSameIslandUptoRow, standIns := [], harness := (true, "806470989b4861397ead9c5b73db707f10b429d8195b014afae7a1d5d4375a2d"), looks := false }, kinds := [], alts := [], laidByText := true, laidKinds := [.data, .data, .data], laidTests := true, laidLooks := .later }
def FnSameIslandUptoCardSaid : Prop := Claim7.holds Tryd.pinned (.plain (OpenSpec.upto fnSameIslandSpec)) fnSameIslandUptoCard

/-- THE SECOND FORM's CARD OF 'laws.FnReached'. -/
def fnReachedUptoCard : Claim7 := { stood := { row := fnReachedUptoRow, standIns := [], harness := (true, "806470989b4861397ead9c5b73db707f10b429d8195b014afae7a1d5d4375a2d"), looks := false }, kinds := [], alts := [], laidByText := true, laidKinds := [.data, .data, .data], laidTests := true, laidLooks := .later }
def FnReachedUptoCardSaid : Prop := Claim7.holds Tryd.pinned (.plain (OpenSpec.upto fnReachedSpec)) fnReachedUptoCard

/-- THE SECOND FORM's CARD OF 'laws.FnIslandsOf'. -/
def fnIslandsOfUptoCard : Claim7 := { stood := { row := fnIslandsOfUptoRow, standIns := [], harness := (true, "806470989b4861397ead9c5b73db707f10b429d8195b014afae7a1d5d4375a2d"), looks := false }, kinds := [], alts := [], laidByText := true, laidKinds := [.data, .data, .data], laidTests := true, laidLooks := .later }
def FnIslandsOfUptoCardSaid : Prop := Claim7.holds Tryd.pinned (.plain (OpenSpec.upto fnIslandsOfSpec)) fnIslandsOfUptoCard

/-- THE SECOND FORM's CARD OF 'laws.FnIslandNumbers'. -/
def fnIslandNumbersUptoCard : Claim7 := { stood := { row := fnIslandNumbersUptoRow, standIns := [], harness := (true, "806470989b4861397ead9c5b73db707f10b429d8195b014afae7a1d5d4375a2d"), looks := false }, kinds := [], alts := [], laidByText := true, laidKinds := [.data, .data, .data], laidTests := true, laidLooks := .later }
def FnIslandNumbersUptoCardSaid : Prop := Claim7.holds Tryd.pinned (.plain (OpenSpec.upto fnIslandNumbersSpec)) fnIslandNumbersUptoCard

/-- THE SECOND FORM's CARD OF 'laws.FnHasCycle'. -/
def fnHasCycleUptoCard : Claim7 := { stood := { row := fnHasCycleUptoRow, standIns := [], harness := (true, "806470989b4861397ead9c5b73db707f10b429d8195b014afae7a1d5d4375a2d"), looks := false }, kinds := [], alts := [], laidByText := true, laidKinds := [.data, .data, .data], laidTests := true, laidLooks := .later }
def FnHasCycleUptoCardSaid : Prop := Claim7.holds Tryd.pinned (.plain (OpenSpec.upto fnHasCycleSpec)) fnHasCycleUptoCard
end Rows
end Go.Proofs.YthkdkjmnnpcdhaaDoor
