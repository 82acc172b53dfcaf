/-
  DERIVED. GIVEN WITH THE SEED: THE CARDS: each row of YtgdjegapdmbfnaaGreatDoorRows.lean that lists a variable, with what it lists TIED to the program's text (the seventh form; the later family's looks); each row that meets fmt, with fmt's text TOLD by the authors' own Lean function (tested against real Go, not proved from fmt's source: count such statements apart). THE CARD IS WHAT COUNTS. Prove the row's statement (the work); the ties are given (YtgdjegapdmbfnaaGreatDoorTie.lean); close each card by the builder's one call (the guide's Derived/Test/ToyasCard.lean, 'card_holds'). Laid BY PROGRAM, IN A SANDBOX (cutbox-door.mjs). By AI agents, Wed Nov 11 2026. No macro, syntax, notation, axiom, sorry.
-/
import Derived.Test.YtgdjegapdmbfnaaGreatDoorRows
import GoSem.ClaimSeven
namespace Go.Proofs.YtgdjegapdmbfnaaGreatDoor
namespace Rows

/-- THE TIED CARD OF 'laws.FnExactClimb'. -/
def fnExactClimbCard : Claim7 := { stood := { row := fnExactClimbRow, standIns := [], harness := (true, "e19b4c4e8d1d868a0a070b7fe64c27627091f904d417355307a50d6dcdca3627"), looks := false }, kinds := [], alts := [], laidByText := true, laidKinds := [.data, .data, .data, .data, .pinned], laidTests := true, laidLooks := .later }
def FnExactClimbCardSaid : Prop := Claim7.holds Tryz.pinned (.plain (OpenSpec.ofChange fnExactClimbSpec)) fnExactClimbCard

/-- THE TIED CARD OF 'laws.FnExactHearView'. -/
def fnExactHearViewCard : Claim7 := { stood := { row := fnExactHearViewRow, standIns := [], harness := (true, "e19b4c4e8d1d868a0a070b7fe64c27627091f904d417355307a50d6dcdca3627"), looks := false }, kinds := [], alts := [], laidByText := true, laidKinds := [.data, .data, .data, .data, .pinned], laidTests := true, laidLooks := .later }
def FnExactHearViewCardSaid : Prop := Claim7.holds Tryz.pinned (.plain (OpenSpec.ofChange fnExactHearViewSpec)) fnExactHearViewCard

/-- THE TIED CARD OF 'laws.FnExactSend'. -/
def fnExactSendCard : Claim7 := { stood := { row := fnExactSendRow, standIns := [], harness := (true, "e19b4c4e8d1d868a0a070b7fe64c27627091f904d417355307a50d6dcdca3627"), looks := false }, kinds := [], alts := [], laidByText := true, laidKinds := [.data, .data, .data, .data, .pinned], laidTests := true, laidLooks := .later }
def FnExactSendCardSaid : Prop := Claim7.holds Tryz.pinned (.plain (OpenSpec.ofChange fnExactSendSpec)) fnExactSendCard

/-- THE TIED CARD OF 'laws.FnExactHearPart'. -/
def fnExactHearPartCard : Claim7 := { stood := { row := fnExactHearPartRow, standIns := [], harness := (true, "e19b4c4e8d1d868a0a070b7fe64c27627091f904d417355307a50d6dcdca3627"), looks := false }, kinds := [], alts := [], laidByText := true, laidKinds := [.data, .data, .data, .data, .pinned], laidTests := true, laidLooks := .later }
def FnExactHearPartCardSaid : Prop := Claim7.holds Tryz.pinned (.plain (OpenSpec.ofChange fnExactHearPartSpec)) fnExactHearPartCard

/-- THE TIED CARD OF 'laws.FnExactHearBlock'. -/
def fnExactHearBlockCard : Claim7 := { stood := { row := fnExactHearBlockRow, standIns := [], harness := (true, "e19b4c4e8d1d868a0a070b7fe64c27627091f904d417355307a50d6dcdca3627"), looks := false }, kinds := [], alts := [], laidByText := true, laidKinds := [.data, .data, .data, .data, .pinned], laidTests := true, laidLooks := .later }
def FnExactHearBlockCardSaid : Prop := Claim7.holds Tryz.pinned (.plain (OpenSpec.ofChange fnExactHearBlockSpec)) fnExactHearBlockCard

/-- THE TIED CARD OF 'laws.FnExactHear'. -/
def fnExactHearCard : Claim7 := { stood := { row := fnExactHearRow, standIns := [], harness := (true, "e19b4c4e8d1d868a0a070b7fe64c27627091f904d417355307a50d6dcdca3627"), looks := false }, kinds := [], alts := [], laidByText := true, laidKinds := [.data, .data, .data, .data, .pinned], laidTests := true, laidLooks := .later }
def FnExactHearCardSaid : Prop := Claim7.holds Tryz.pinned (.plain (OpenSpec.ofChange fnExactHearSpec)) fnExactHearCard

/-- THE SECOND FORM's CARD OF 'laws.FnExactClimb'. -/
def fnExactClimbUptoCard : Claim7 := { stood := { row := fnExactClimbUptoRow, standIns := [], harness := (true, "e19b4c4e8d1d868a0a070b7fe64c27627091f904d417355307a50d6dcdca3627"), looks := false }, kinds := [], alts := [], laidByText := true, laidKinds := [.data, .data, .data, .data, .pinned], laidTests := true, laidLooks := .later }
def FnExactClimbUptoCardSaid : Prop := Claim7.holds Tryz.pinned (.plain (OpenSpec.upto fnExactClimbSpec)) fnExactClimbUptoCard

/-- THE SECOND FORM's CARD OF 'laws.FnExactHearView'. -/
def fnExactHearViewUptoCard : Claim7 := { stood := { row := fnExactHearViewUptoRow, standIns := [], harness := (true, "e19b4c4e8d1d868a0a070b7fe64c27627091f904d417355307a50d6dcdca3627"), looks := false }, kinds := [], alts := [], laidByText := true, laidKinds := [.data, .data, .data, .data, .pinned], laidTests := true, laidLooks := .later }
def FnExactHearViewUptoCardSaid : Prop := Claim7.holds Tryz.pinned (.plain (OpenSpec.upto fnExactHearViewSpec)) fnExactHearViewUptoCard

/-- THE SECOND FORM's CARD OF 'laws.FnExactSend'. -/
def fnExactSendUptoCard : Claim7 := { stood := { row := fnExactSendUptoRow, standIns := [], harness := (true, "e19b4c4e8d1d868a0a070b7fe64c27627091f904d417355307a50d6dcdca3627"), looks := false }, kinds := [], alts := [], laidByText := true, laidKinds := [.data, .data, .data, .data, .pinned], laidTests := true, laidLooks := .later }
def FnExactSendUptoCardSaid : Prop := Claim7.holds Tryz.pinned (.plain (OpenSpec.upto fnExactSendSpec)) fnExactSendUptoCard

/-- THE SECOND FORM's CARD OF 'laws.FnExactHearPart'. -/
def fnExactHearPartUptoCard : Claim7 := { stood := { row := fnExactHearPartUptoRow, standIns := [], harness := (true, "e19b4c4e8d1d868a0a070b7fe64c27627091f904d417355307a50d6dcdca3627"), looks := false }, kinds := [], alts := [], laidByText := true, laidKinds := [.data, .data, .data, .data, .pinned], laidTests := true, laidLooks := .later }
def FnExactHearPartUptoCardSaid : Prop := Claim7.holds Tryz.pinned (.plain (OpenSpec.upto fnExactHearPartSpec)) fnExactHearPartUptoCard

/-- THE SECOND FORM's CARD OF 'laws.FnExactHearBlock'. -/
def fnExactHearBlockUptoCard : Claim7 := { stood := { row := fnExactHearBlockUptoRow, standIns := [], harness := (true, "e19b4c4e8d1d868a0a070b7fe64c27627091f904d417355307a50d6dcdca3627"), looks := false }, kinds := [], alts := [], laidByText := true, laidKinds := [.data, .data, .data, .data, .pinned], laidTests := true, laidLooks := .later }
def FnExactHearBlockUptoCardSaid : Prop := Claim7.holds Tryz.pinned (.plain (OpenSpec.upto fnExactHearBlockSpec)) fnExactHearBlockUptoCard

/-- THE SECOND FORM's CARD OF 'laws.FnExactHear'. -/
def fnExactHearUptoCard : Claim7 := { stood := { row := fnExactHearUptoRow, standIns := [], harness := (true, "e19b4c4e8d1d868a0a070b7fe64c27627091f904d417355307a50d6dcdca3627"), looks := false }, kinds := [], alts := [], laidByText := true, laidKinds := [.data, .data, .data, .data, .pinned], laidTests := true, laidLooks := .later }
def FnExactHearUptoCardSaid : Prop := Claim7.holds Tryz.pinned (.plain (OpenSpec.upto fnExactHearSpec)) fnExactHearUptoCard
end Rows
end Go.Proofs.YtgdjegapdmbfnaaGreatDoor
