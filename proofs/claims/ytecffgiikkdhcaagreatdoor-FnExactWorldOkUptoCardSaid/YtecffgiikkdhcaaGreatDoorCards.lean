/-
  DERIVED. GIVEN WITH THE SEED: THE CARDS: each row of YtecffgiikkdhcaaGreatDoorRows.lean that lists a variable, with what it lists TIED to the program's text (the seventh form; the later family's looks); each row that meets fmt, with fmt's text TOLD by the authors' own Lean function (tested against real Go, not proved from fmt's source: count such statements apart). THE CARD IS WHAT COUNTS. Prove the row's statement (the work); the ties are given (YtecffgiikkdhcaaGreatDoorTie.lean); close each card by the builder's one call (the guide's Derived/Test/ToyasCard.lean, 'card_holds'). Laid BY PROGRAM, IN A SANDBOX (cutbox-door.mjs). By AI agents, Wed Nov 11 2026. No macro, syntax, notation, axiom, sorry.
-/
import Derived.Test.YtecffgiikkdhcaaGreatDoorRows
import GoSem.ClaimSeven
namespace Go.Proofs.YtecffgiikkdhcaaGreatDoor
namespace Rows

/-- THE TIED CARD OF 'laws.FnExactKept'. -/
def fnExactKeptCard : Claim7 := { stood := { row := fnExactKeptRow, standIns := [], harness := (true, "48edd48059079868871fa76425b73e12a93e90fd281ffccbb0d99e31b3322ffb"), looks := false }, kinds := [], alts := [], laidByText := true, laidKinds := [.data, .data, .data, .data, .pinned], laidTests := true, laidLooks := .later }
def FnExactKeptCardSaid : Prop := Claim7.holds Tryz.pinned (.plain (OpenSpec.ofChange fnExactKeptSpec)) fnExactKeptCard

/-- THE TIED CARD OF 'laws.FnExactState'. -/
def fnExactStateCard : Claim7 := { stood := { row := fnExactStateRow, standIns := [], harness := (true, "48edd48059079868871fa76425b73e12a93e90fd281ffccbb0d99e31b3322ffb"), looks := false }, kinds := [], alts := [], laidByText := true, laidKinds := [.data, .data, .data, .data, .pinned], laidTests := true, laidLooks := .later }
def FnExactStateCardSaid : Prop := Claim7.holds Tryz.pinned (.plain (OpenSpec.ofChange fnExactStateSpec)) fnExactStateCard

/-- THE TIED CARD OF 'laws.FnExactSureNow'. -/
def fnExactSureNowCard : Claim7 := { stood := { row := fnExactSureNowRow, standIns := [], harness := (true, "48edd48059079868871fa76425b73e12a93e90fd281ffccbb0d99e31b3322ffb"), looks := false }, kinds := [], alts := [], laidByText := true, laidKinds := [.data, .data, .data, .data, .pinned], laidTests := true, laidLooks := .later }
def FnExactSureNowCardSaid : Prop := Claim7.holds Tryz.pinned (.plain (OpenSpec.ofChange fnExactSureNowSpec)) fnExactSureNowCard

/-- THE TIED CARD OF 'laws.FnExactWorldOk'. -/
def fnExactWorldOkCard : Claim7 := { stood := { row := fnExactWorldOkRow, standIns := [], harness := (true, "48edd48059079868871fa76425b73e12a93e90fd281ffccbb0d99e31b3322ffb"), looks := false }, kinds := [], alts := [], laidByText := true, laidKinds := [.data, .data, .data, .data, .pinned], laidTests := true, laidLooks := .later }
def FnExactWorldOkCardSaid : Prop := Claim7.holds Tryz.pinned (.plain (OpenSpec.ofChange fnExactWorldOkSpec)) fnExactWorldOkCard

/-- THE TIED CARD OF 'laws.FnExactAsk'. -/
def fnExactAskCard : Claim7 := { stood := { row := fnExactAskRow, standIns := [], harness := (true, "48edd48059079868871fa76425b73e12a93e90fd281ffccbb0d99e31b3322ffb"), looks := false }, kinds := [], alts := [], laidByText := true, laidKinds := [.data, .data, .data, .data, .pinned], laidTests := true, laidLooks := .later }
def FnExactAskCardSaid : Prop := Claim7.holds Tryz.pinned (.plain (OpenSpec.ofChange fnExactAskSpec)) fnExactAskCard

/-- THE TIED CARD OF 'laws.FnExactWorldNew'. -/
def fnExactWorldNewCard : Claim7 := { stood := { row := fnExactWorldNewRow, standIns := [], harness := (true, "48edd48059079868871fa76425b73e12a93e90fd281ffccbb0d99e31b3322ffb"), looks := false }, kinds := [], alts := [], laidByText := true, laidKinds := [.data, .data, .data, .data, .pinned], laidTests := true, laidLooks := .later }
def FnExactWorldNewCardSaid : Prop := Claim7.holds Tryz.pinned (.plain (OpenSpec.ofChange fnExactWorldNewSpec)) fnExactWorldNewCard

/-- THE SECOND FORM's CARD OF 'laws.FnExactKept'. -/
def fnExactKeptUptoCard : Claim7 := { stood := { row := fnExactKeptUptoRow, standIns := [], harness := (true, "48edd48059079868871fa76425b73e12a93e90fd281ffccbb0d99e31b3322ffb"), looks := false }, kinds := [], alts := [], laidByText := true, laidKinds := [.data, .data, .data, .data, .pinned], laidTests := true, laidLooks := .later }
def FnExactKeptUptoCardSaid : Prop := Claim7.holds Tryz.pinned (.plain (OpenSpec.upto fnExactKeptSpec)) fnExactKeptUptoCard

/-- THE SECOND FORM's CARD OF 'laws.FnExactState'. -/
def fnExactStateUptoCard : Claim7 := { stood := { row := fnExactStateUptoRow, standIns := [], harness := (true, "48edd48059079868871fa76425b73e12a93e90fd281ffccbb0d99e31b3322ffb"), looks := false }, kinds := [], alts := [], laidByText := true, laidKinds := [.data, .data, .data, .data, .pinned], laidTests := true, laidLooks := .later }
def FnExactStateUptoCardSaid : Prop := Claim7.holds Tryz.pinned (.plain (OpenSpec.upto fnExactStateSpec)) fnExactStateUptoCard

/-- THE SECOND FORM's CARD OF 'laws.FnExactSureNow'. -/
def fnExactSureNowUptoCard : Claim7 := { stood := { row := fnExactSureNowUptoRow, standIns := [], harness := (true, "48edd48059079868871fa76425b73e12a93e90fd281ffccbb0d99e31b3322ffb"), looks := false }, kinds := [], alts := [], laidByText := true, laidKinds := [.data, .data, .data, .data, .pinned], laidTests := true, laidLooks := .later }
def FnExactSureNowUptoCardSaid : Prop := Claim7.holds Tryz.pinned (.plain (OpenSpec.upto fnExactSureNowSpec)) fnExactSureNowUptoCard

/-- THE SECOND FORM's CARD OF 'laws.FnExactWorldOk'. -/
def fnExactWorldOkUptoCard : Claim7 := { stood := { row := fnExactWorldOkUptoRow, standIns := [], harness := (true, "48edd48059079868871fa76425b73e12a93e90fd281ffccbb0d99e31b3322ffb"), looks := false }, kinds := [], alts := [], laidByText := true, laidKinds := [.data, .data, .data, .data, .pinned], laidTests := true, laidLooks := .later }
def FnExactWorldOkUptoCardSaid : Prop := Claim7.holds Tryz.pinned (.plain (OpenSpec.upto fnExactWorldOkSpec)) fnExactWorldOkUptoCard

/-- THE SECOND FORM's CARD OF 'laws.FnExactAsk'. -/
def fnExactAskUptoCard : Claim7 := { stood := { row := fnExactAskUptoRow, standIns := [], harness := (true, "48edd48059079868871fa76425b73e12a93e90fd281ffccbb0d99e31b3322ffb"), looks := false }, kinds := [], alts := [], laidByText := true, laidKinds := [.data, .data, .data, .data, .pinned], laidTests := true, laidLooks := .later }
def FnExactAskUptoCardSaid : Prop := Claim7.holds Tryz.pinned (.plain (OpenSpec.upto fnExactAskSpec)) fnExactAskUptoCard

/-- THE SECOND FORM's CARD OF 'laws.FnExactWorldNew'. -/
def fnExactWorldNewUptoCard : Claim7 := { stood := { row := fnExactWorldNewUptoRow, standIns := [], harness := (true, "48edd48059079868871fa76425b73e12a93e90fd281ffccbb0d99e31b3322ffb"), looks := false }, kinds := [], alts := [], laidByText := true, laidKinds := [.data, .data, .data, .data, .pinned], laidTests := true, laidLooks := .later }
def FnExactWorldNewUptoCardSaid : Prop := Claim7.holds Tryz.pinned (.plain (OpenSpec.upto fnExactWorldNewSpec)) fnExactWorldNewUptoCard
end Rows
end Go.Proofs.YtecffgiikkdhcaaGreatDoor
