/-
  DERIVED. GIVEN WITH THE SEED: THE CARDS: each row of YtfobheedeodnjaaGreatDoorRows.lean that lists a variable, with what it lists TIED to the program's text (the seventh form; the later family's looks); each row that meets fmt, with fmt's text TOLD by the authors' own Lean function (tested against real Go, not proved from fmt's source: count such statements apart). THE CARD IS WHAT COUNTS. Prove the row's statement (the work); the ties are given (YtfobheedeodnjaaGreatDoorTie.lean); close each card by the builder's one call (the guide's Derived/Test/ToyasCard.lean, 'card_holds'). Laid BY PROGRAM, IN A SANDBOX (cutbox-door.mjs). By AI agents, Wed Nov 11 2026. No macro, syntax, notation, axiom, sorry.
-/
import Derived.Test.YtfobheedeodnjaaGreatDoorRows
import GoSem.ClaimSeven
namespace Go.Proofs.YtfobheedeodnjaaGreatDoor
namespace Rows

/-- THE TIED CARD OF 'laws.FnPaysOnce'. -/
def fnPaysOnceCard : Claim7 := { stood := { row := fnPaysOnceRow, standIns := [], harness := (true, "dd84f3d6c42408b968f44a18912d3deabacd70006ef93514c22df091ca245e28"), looks := false }, kinds := [], alts := [], laidByText := true, laidKinds := [.data, .data, .data, .data, .pinned], laidTests := true, laidLooks := .later }
def FnPaysOnceCardSaid : Prop := Claim7.holds Tryz.pinned (.plain (OpenSpec.ofChange fnPaysOnceSpec)) fnPaysOnceCard

/-- THE TIED CARD OF 'laws.FnSendsInOrder'. -/
def fnSendsInOrderCard : Claim7 := { stood := { row := fnSendsInOrderRow, standIns := [], harness := (true, "dd84f3d6c42408b968f44a18912d3deabacd70006ef93514c22df091ca245e28"), looks := false }, kinds := [], alts := [], laidByText := true, laidKinds := [.data, .data, .data, .data, .pinned], laidTests := true, laidLooks := .later }
def FnSendsInOrderCardSaid : Prop := Claim7.holds Tryz.pinned (.plain (OpenSpec.ofChange fnSendsInOrderSpec)) fnSendsInOrderCard

/-- THE SECOND FORM's CARD OF 'laws.FnPaysOnce'. -/
def fnPaysOnceUptoCard : Claim7 := { stood := { row := fnPaysOnceUptoRow, standIns := [], harness := (true, "dd84f3d6c42408b968f44a18912d3deabacd70006ef93514c22df091ca245e28"), looks := false }, kinds := [], alts := [], laidByText := true, laidKinds := [.data, .data, .data, .data, .pinned], laidTests := true, laidLooks := .later }
def FnPaysOnceUptoCardSaid : Prop := Claim7.holds Tryz.pinned (.plain (OpenSpec.upto fnPaysOnceSpec)) fnPaysOnceUptoCard

/-- THE SECOND FORM's CARD OF 'laws.FnSendsInOrder'. -/
def fnSendsInOrderUptoCard : Claim7 := { stood := { row := fnSendsInOrderUptoRow, standIns := [], harness := (true, "dd84f3d6c42408b968f44a18912d3deabacd70006ef93514c22df091ca245e28"), looks := false }, kinds := [], alts := [], laidByText := true, laidKinds := [.data, .data, .data, .data, .pinned], laidTests := true, laidLooks := .later }
def FnSendsInOrderUptoCardSaid : Prop := Claim7.holds Tryz.pinned (.plain (OpenSpec.upto fnSendsInOrderSpec)) fnSendsInOrderUptoCard
end Rows
end Go.Proofs.YtfobheedeodnjaaGreatDoor
