/-
  DERIVED. GIVEN WITH THE SEED: THE CARDS: each row of YtpgjgbjkfgbpaaaDoorRows.lean that lists a variable, with what it lists TIED to the program's text (the seventh form; the later family's looks); each row that meets fmt, with fmt's text TOLD by the authors' own Lean function (tested against real Go, not proved from fmt's source: count such statements apart). THE CARD IS WHAT COUNTS. Prove the row's statement (the work); the ties are given (YtpgjgbjkfgbpaaaDoorTie.lean); close each card by the builder's one call (the guide's Derived/Test/ToyasCard.lean, 'card_holds'). Laid BY PROGRAM, IN A SANDBOX (cutbox-door.mjs). By AI agents, Wed Nov 11 2026. No macro, syntax, notation, axiom, sorry.
-/
import Derived.Test.YtpgjgbjkfgbpaaaDoorRows
import GoSem.ClaimSeven
namespace Go.Proofs.YtpgjgbjkfgbpaaaDoor
namespace Rows

/-- THE TIED CARD OF 'laws.FnIslandFeed'. -/
def fnIslandFeedCard : Claim7 := { stood := { row := fnIslandFeedRow, standIns := [], harness := (true, "9c2bbb5103c74fbc572e0af1c1b91f8ca01e99c9484052babc01f81d43e4fb39"), looks := false }, kinds := [], alts := [], laidByText := true, laidKinds := [.data, .data, .data], laidTests := true, laidLooks := .later }
def FnIslandFeedCardSaid : Prop := Claim7.holds Tryd.pinned (.plain (OpenSpec.ofChange fnIslandFeedSpec)) fnIslandFeedCard

/-- THE TIED CARD OF 'laws.FnCycleLines'. -/
def fnCycleLinesCard : Claim7 := { stood := { row := fnCycleLinesRow, standIns := [], harness := (true, "9c2bbb5103c74fbc572e0af1c1b91f8ca01e99c9484052babc01f81d43e4fb39"), looks := false }, kinds := [], alts := [], laidByText := true, laidKinds := [.data, .data, .data], laidTests := true, laidLooks := .later }
def FnCycleLinesCardSaid : Prop := Claim7.holds Tryd.pinned (.plain (OpenSpec.ofChange fnCycleLinesSpec)) fnCycleLinesCard

/-- THE TIED CARD OF 'laws.FnIslandLoad'. -/
def fnIslandLoadCard : Claim7 := { stood := { row := fnIslandLoadRow, standIns := [], harness := (true, "9c2bbb5103c74fbc572e0af1c1b91f8ca01e99c9484052babc01f81d43e4fb39"), looks := false }, kinds := [], alts := [], laidByText := true, laidKinds := [.data, .data, .data], laidTests := true, laidLooks := .later }
def FnIslandLoadCardSaid : Prop := Claim7.holds Tryd.pinned (.plain (OpenSpec.ofChange fnIslandLoadSpec)) fnIslandLoadCard

/-- THE TIED CARD OF 'laws.FnSpanningLines'. -/
def fnSpanningLinesCard : Claim7 := { stood := { row := fnSpanningLinesRow, standIns := [], harness := (true, "9c2bbb5103c74fbc572e0af1c1b91f8ca01e99c9484052babc01f81d43e4fb39"), looks := false }, kinds := [], alts := [], laidByText := true, laidKinds := [.data, .data, .data], laidTests := true, laidLooks := .later }
def FnSpanningLinesCardSaid : Prop := Claim7.holds Tryd.pinned (.plain (OpenSpec.ofChange fnSpanningLinesSpec)) fnSpanningLinesCard

/-- THE TIED CARD OF 'laws.FnBridgeLines'. -/
def fnBridgeLinesCard : Claim7 := { stood := { row := fnBridgeLinesRow, standIns := [], harness := (true, "9c2bbb5103c74fbc572e0af1c1b91f8ca01e99c9484052babc01f81d43e4fb39"), looks := false }, kinds := [], alts := [], laidByText := true, laidKinds := [.data, .data, .data], laidTests := true, laidLooks := .later }
def FnBridgeLinesCardSaid : Prop := Claim7.holds Tryd.pinned (.plain (OpenSpec.ofChange fnBridgeLinesSpec)) fnBridgeLinesCard

/-- THE TIED CARD OF 'laws.FnServedLoad'. -/
def fnServedLoadCard : Claim7 := { stood := { row := fnServedLoadRow, standIns := [], harness := (true, "9c2bbb5103c74fbc572e0af1c1b91f8ca01e99c9484052babc01f81d43e4fb39"), looks := false }, kinds := [], alts := [], laidByText := true, laidKinds := [.data, .data, .data], laidTests := true, laidLooks := .later }
def FnServedLoadCardSaid : Prop := Claim7.holds Tryd.pinned (.plain (OpenSpec.ofChange fnServedLoadSpec)) fnServedLoadCard

/-- THE TIED CARD OF 'laws.FnFedBy'. -/
def fnFedByCard : Claim7 := { stood := { row := fnFedByRow, standIns := [], harness := (true, "9c2bbb5103c74fbc572e0af1c1b91f8ca01e99c9484052babc01f81d43e4fb39"), looks := false }, kinds := [], alts := [], laidByText := true, laidKinds := [.data, .data, .data], laidTests := true, laidLooks := .later }
def FnFedByCardSaid : Prop := Claim7.holds Tryd.pinned (.plain (OpenSpec.ofChange fnFedBySpec)) fnFedByCard

/-- THE TIED CARD OF 'laws.FnParentLine'. -/
def fnParentLineCard : Claim7 := { stood := { row := fnParentLineRow, standIns := [], harness := (true, "9c2bbb5103c74fbc572e0af1c1b91f8ca01e99c9484052babc01f81d43e4fb39"), looks := false }, kinds := [], alts := [], laidByText := true, laidKinds := [.data, .data, .data], laidTests := true, laidLooks := .later }
def FnParentLineCardSaid : Prop := Claim7.holds Tryd.pinned (.plain (OpenSpec.ofChange fnParentLineSpec)) fnParentLineCard

/-- THE TIED CARD OF 'laws.FnNetText'. -/
def fnNetTextCard : Claim7 := { stood := { row := fnNetTextRow, standIns := [], harness := (true, "9c2bbb5103c74fbc572e0af1c1b91f8ca01e99c9484052babc01f81d43e4fb39"), looks := false }, kinds := [], alts := [], laidByText := true, laidKinds := [.data, .data, .data, .data, .pinned], laidTests := true, laidLooks := .later }
def FnNetTextCardSaid : Prop := Claim7.holds Tryd.pinned (.plain (OpenSpec.ofChange fnNetTextSpec)) fnNetTextCard

/-- THE TIED CARD OF 'laws.FnRadial'. -/
def fnRadialCard : Claim7 := { stood := { row := fnRadialRow, standIns := [], harness := (true, "9c2bbb5103c74fbc572e0af1c1b91f8ca01e99c9484052babc01f81d43e4fb39"), looks := false }, kinds := [], alts := [], laidByText := true, laidKinds := [.data, .data, .data], laidTests := true, laidLooks := .later }
def FnRadialCardSaid : Prop := Claim7.holds Tryd.pinned (.plain (OpenSpec.ofChange fnRadialSpec)) fnRadialCard

/-- THE TIED CARD OF 'laws.FnPathLines'. -/
def fnPathLinesCard : Claim7 := { stood := { row := fnPathLinesRow, standIns := [], harness := (true, "9c2bbb5103c74fbc572e0af1c1b91f8ca01e99c9484052babc01f81d43e4fb39"), looks := false }, kinds := [], alts := [], laidByText := true, laidKinds := [.data, .data, .data], laidTests := true, laidLooks := .later }
def FnPathLinesCardSaid : Prop := Claim7.holds Tryd.pinned (.plain (OpenSpec.ofChange fnPathLinesSpec)) fnPathLinesCard

/-- THE SECOND FORM's CARD OF 'laws.FnIslandFeed'. -/
def fnIslandFeedUptoCard : Claim7 := { stood := { row := fnIslandFeedUptoRow, standIns := [], harness := (true, "9c2bbb5103c74fbc572e0af1c1b91f8ca01e99c9484052babc01f81d43e4fb39"), looks := false }, kinds := [], alts := [], laidByText := true, laidKinds := [.data, .data, .data], laidTests := true, laidLooks := .later }
def FnIslandFeedUptoCardSaid : Prop := Claim7.holds Tryd.pinned (.plain (OpenSpec.upto fnIslandFeedSpec)) fnIslandFeedUptoCard

/-- THE SECOND FORM's CARD OF 'laws.FnCycleLines'. -/
def fnCycleLinesUptoCard : Claim7 := { stood := { row := fnCycleLinesUptoRow, standIns := [], harness := (true, "9c2bbb5103c74fbc572e0af1c1b91f8ca01e99c9484052babc01f81d43e4fb39"), looks := false }, kinds := [], alts := [], laidByText := true, laidKinds := [.data, .data, .data], laidTests := true, laidLooks := .later }
def FnCycleLinesUptoCardSaid : Prop := Claim7.holds Tryd.pinned (.plain (OpenSpec.upto fnCycleLinesSpec)) fnCycleLinesUptoCard

/-- THE SECOND FORM's CARD OF 'laws.FnIslandLoad'. -/
def fnIslandLoadUptoCard : Claim7 := { stood := { row := fnIslandLoadUptoRow, standIns := [], harness := (true, "9c2bbb5103c74fbc572e0af1c1b91f8ca01e99c9484052babc01f81d43e4fb39"), looks := false }, kinds := [], alts := [], laidByText := true, laidKinds := [.data, .data, .data], laidTests := true, laidLooks := .later }
def FnIslandLoadUptoCardSaid : Prop := Claim7.holds Tryd.pinned (.plain (OpenSpec.upto fnIslandLoadSpec)) fnIslandLoadUptoCard

/-- THE SECOND FORM's CARD OF 'laws.FnSpanningLines'. -/
def fnSpanningLinesUptoCard : Claim7 := { stood := { row := fnSpanningLinesUptoRow, standIns := [], harness := (true, "9c2bbb5103c74fbc572e0af1c1b91f8ca01e99c9484052babc01f81d43e4fb39"), looks := false }, kinds := [], alts := [], laidByText := true, laidKinds := [.data, .data, .data], laidTests := true, laidLooks := .later }
def FnSpanningLinesUptoCardSaid : Prop := Claim7.holds Tryd.pinned (.plain (OpenSpec.upto fnSpanningLinesSpec)) fnSpanningLinesUptoCard

/-- THE SECOND FORM's CARD OF 'laws.FnBridgeLines'. -/
def fnBridgeLinesUptoCard : Claim7 := { stood := { row := fnBridgeLinesUptoRow, standIns := [], harness := (true, "9c2bbb5103c74fbc572e0af1c1b91f8ca01e99c9484052babc01f81d43e4fb39"), looks := false }, kinds := [], alts := [], laidByText := true, laidKinds := [.data, .data, .data], laidTests := true, laidLooks := .later }
def FnBridgeLinesUptoCardSaid : Prop := Claim7.holds Tryd.pinned (.plain (OpenSpec.upto fnBridgeLinesSpec)) fnBridgeLinesUptoCard

/-- THE SECOND FORM's CARD OF 'laws.FnServedLoad'. -/
def fnServedLoadUptoCard : Claim7 := { stood := { row := fnServedLoadUptoRow, standIns := [], harness := (true, "9c2bbb5103c74fbc572e0af1c1b91f8ca01e99c9484052babc01f81d43e4fb39"), looks := false }, kinds := [], alts := [], laidByText := true, laidKinds := [.data, .data, .data], laidTests := true, laidLooks := .later }
def FnServedLoadUptoCardSaid : Prop := Claim7.holds Tryd.pinned (.plain (OpenSpec.upto fnServedLoadSpec)) fnServedLoadUptoCard

/-- THE SECOND FORM's CARD OF 'laws.FnFedBy'. -/
def fnFedByUptoCard : Claim7 := { stood := { row := fnFedByUptoRow, standIns := [], harness := (true, "9c2bbb5103c74fbc572e0af1c1b91f8ca01e99c9484052babc01f81d43e4fb39"), looks := false }, kinds := [], alts := [], laidByText := true, laidKinds := [.data, .data, .data], laidTests := true, laidLooks := .later }
def FnFedByUptoCardSaid : Prop := Claim7.holds Tryd.pinned (.plain (OpenSpec.upto fnFedBySpec)) fnFedByUptoCard

/-- THE SECOND FORM's CARD OF 'laws.FnParentLine'. -/
def fnParentLineUptoCard : Claim7 := { stood := { row := fnParentLineUptoRow, standIns := [], harness := (true, "9c2bbb5103c74fbc572e0af1c1b91f8ca01e99c9484052babc01f81d43e4fb39"), looks := false }, kinds := [], alts := [], laidByText := true, laidKinds := [.data, .data, .data], laidTests := true, laidLooks := .later }
def FnParentLineUptoCardSaid : Prop := Claim7.holds Tryd.pinned (.plain (OpenSpec.upto fnParentLineSpec)) fnParentLineUptoCard

/-- THE SECOND FORM's CARD OF 'laws.FnNetText'. -/
def fnNetTextUptoCard : Claim7 := { stood := { row := fnNetTextUptoRow, standIns := [], harness := (true, "9c2bbb5103c74fbc572e0af1c1b91f8ca01e99c9484052babc01f81d43e4fb39"), looks := false }, kinds := [], alts := [], laidByText := true, laidKinds := [.data, .data, .data, .data, .pinned], laidTests := true, laidLooks := .later }
def FnNetTextUptoCardSaid : Prop := Claim7.holds Tryd.pinned (.plain (OpenSpec.upto fnNetTextSpec)) fnNetTextUptoCard

/-- THE SECOND FORM's CARD OF 'laws.FnRadial'. -/
def fnRadialUptoCard : Claim7 := { stood := { row := fnRadialUptoRow, standIns := [], harness := (true, "9c2bbb5103c74fbc572e0af1c1b91f8ca01e99c9484052babc01f81d43e4fb39"), looks := false }, kinds := [], alts := [], laidByText := true, laidKinds := [.data, .data, .data], laidTests := true, laidLooks := .later }
def FnRadialUptoCardSaid : Prop := Claim7.holds Tryd.pinned (.plain (OpenSpec.upto fnRadialSpec)) fnRadialUptoCard

/-- THE SECOND FORM's CARD OF 'laws.FnPathLines'. -/
def fnPathLinesUptoCard : Claim7 := { stood := { row := fnPathLinesUptoRow, standIns := [], harness := (true, "9c2bbb5103c74fbc572e0af1c1b91f8ca01e99c9484052babc01f81d43e4fb39"), looks := false }, kinds := [], alts := [], laidByText := true, laidKinds := [.data, .data, .data], laidTests := true, laidLooks := .later }
def FnPathLinesUptoCardSaid : Prop := Claim7.holds Tryd.pinned (.plain (OpenSpec.upto fnPathLinesSpec)) fnPathLinesUptoCard
end Rows
end Go.Proofs.YtpgjgbjkfgbpaaaDoor
