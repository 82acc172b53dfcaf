/-
  DERIVED. GIVEN WITH THE SEED: THE CARDS: each row of YtdddmajoedcnjaaGreatDoorRows.lean that lists a variable, with what it lists TIED to the program's text (the seventh form; the later family's looks); each row that meets fmt, with fmt's text TOLD by the authors' own Lean function (tested against real Go, not proved from fmt's source: count such statements apart). THE CARD IS WHAT COUNTS. Prove the row's statement (the work); the ties are given (YtdddmajoedcnjaaGreatDoorTie.lean); close each card by the builder's one call (the guide's Derived/Test/ToyasCard.lean, 'card_holds'). Laid BY PROGRAM, IN A SANDBOX (cutbox-door.mjs). By AI agents, Wed Nov 11 2026. No macro, syntax, notation, axiom, sorry.
-/
import Derived.Test.YtdddmajoedcnjaaGreatDoorRows
import GoSem.ClaimSeven
namespace Go.Proofs.YtdddmajoedcnjaaGreatDoor
namespace Rows

/-- THE TIED CARD OF 'laws.FnExactLate'. -/
def fnExactLateCard : Claim7 := { stood := { row := fnExactLateRow, standIns := [], harness := (true, "5dfe58ead293f0d9460028b56afe431193dac74269e38134b939b7187c353096"), looks := false }, kinds := [], alts := [], laidByText := true, laidKinds := [.data, .data, .data, .data, .pinned], laidTests := true, laidLooks := .later }
def FnExactLateCardSaid : Prop := Claim7.holds Tryz.pinned (.plain (OpenSpec.ofChange fnExactLateSpec)) fnExactLateCard

/-- THE TIED CARD OF 'laws.FnExactHearView'. -/
def fnExactHearViewCard : Claim7 := { stood := { row := fnExactHearViewRow, standIns := [], harness := (true, "5dfe58ead293f0d9460028b56afe431193dac74269e38134b939b7187c353096"), looks := false }, kinds := [], alts := [], laidByText := true, laidKinds := [.data, .data, .data, .data, .pinned], laidTests := true, laidLooks := .later }
def FnExactHearViewCardSaid : Prop := Claim7.holds Tryz.pinned (.plain (OpenSpec.ofChange fnExactHearViewSpec)) fnExactHearViewCard

/-- THE TIED CARD OF 'laws.FnExactHear'. -/
def fnExactHearCard : Claim7 := { stood := { row := fnExactHearRow, standIns := [], harness := (true, "5dfe58ead293f0d9460028b56afe431193dac74269e38134b939b7187c353096"), looks := false }, kinds := [], alts := [], laidByText := true, laidKinds := [.data, .data, .data, .data, .pinned], laidTests := true, laidLooks := .later }
def FnExactHearCardSaid : Prop := Claim7.holds Tryz.pinned (.plain (OpenSpec.ofChange fnExactHearSpec)) fnExactHearCard

/-- THE SECOND FORM's CARD OF 'laws.FnExactLate'. -/
def fnExactLateUptoCard : Claim7 := { stood := { row := fnExactLateUptoRow, standIns := [], harness := (true, "5dfe58ead293f0d9460028b56afe431193dac74269e38134b939b7187c353096"), looks := false }, kinds := [], alts := [], laidByText := true, laidKinds := [.data, .data, .data, .data, .pinned], laidTests := true, laidLooks := .later }
def FnExactLateUptoCardSaid : Prop := Claim7.holds Tryz.pinned (.plain (OpenSpec.upto fnExactLateSpec)) fnExactLateUptoCard

/-- THE SECOND FORM's CARD OF 'laws.FnExactHearView'. -/
def fnExactHearViewUptoCard : Claim7 := { stood := { row := fnExactHearViewUptoRow, standIns := [], harness := (true, "5dfe58ead293f0d9460028b56afe431193dac74269e38134b939b7187c353096"), looks := false }, kinds := [], alts := [], laidByText := true, laidKinds := [.data, .data, .data, .data, .pinned], laidTests := true, laidLooks := .later }
def FnExactHearViewUptoCardSaid : Prop := Claim7.holds Tryz.pinned (.plain (OpenSpec.upto fnExactHearViewSpec)) fnExactHearViewUptoCard

/-- THE SECOND FORM's CARD OF 'laws.FnExactHear'. -/
def fnExactHearUptoCard : Claim7 := { stood := { row := fnExactHearUptoRow, standIns := [], harness := (true, "5dfe58ead293f0d9460028b56afe431193dac74269e38134b939b7187c353096"), looks := false }, kinds := [], alts := [], laidByText := true, laidKinds := [.data, .data, .data, .data, .pinned], laidTests := true, laidLooks := .later }
def FnExactHearUptoCardSaid : Prop := Claim7.holds Tryz.pinned (.plain (OpenSpec.upto fnExactHearSpec)) fnExactHearUptoCard
end Rows
end Go.Proofs.YtdddmajoedcnjaaGreatDoor
