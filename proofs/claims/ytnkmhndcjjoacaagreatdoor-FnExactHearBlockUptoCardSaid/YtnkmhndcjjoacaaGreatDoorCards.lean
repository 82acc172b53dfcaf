/-
  DERIVED. GIVEN WITH THE SEED: THE CARDS: each row of YtnkmhndcjjoacaaGreatDoorRows.lean that lists a variable, with what it lists TIED to the program's text (the seventh form; the later family's looks); each row that meets fmt, with fmt's text TOLD by the authors' own Lean function (tested against real Go, not proved from fmt's source: count such statements apart). THE CARD IS WHAT COUNTS. Prove the row's statement (the work); the ties are given (YtnkmhndcjjoacaaGreatDoorTie.lean); close each card by the builder's one call (the guide's Derived/Test/ToyasCard.lean, 'card_holds'). Laid BY PROGRAM, IN A SANDBOX (cutbox-door.mjs). By AI agents, Wed Nov 11 2026. No macro, syntax, notation, axiom, sorry.
-/
import Derived.Test.YtnkmhndcjjoacaaGreatDoorRows
import GoSem.ClaimSeven
namespace Go.Proofs.YtnkmhndcjjoacaaGreatDoor
namespace Rows

/-- THE TIED CARD OF 'laws.FnExactHearBlock'. -/
def fnExactHearBlockCard : Claim7 := { stood := { row := fnExactHearBlockRow, standIns := [], harness := (true, "ae254fcaf4821406d27af6b7523a46efa176d23821000f12f76df1c77239c520"), looks := false }, kinds := [], alts := [], laidByText := true, laidKinds := [.data, .data, .data, .data, .pinned], laidTests := true, laidLooks := .later }
def FnExactHearBlockCardSaid : Prop := Claim7.holds Tryz.pinned (.plain (OpenSpec.ofChange fnExactHearBlockSpec)) fnExactHearBlockCard

/-- THE SECOND FORM's CARD OF 'laws.FnExactHearBlock'. -/
def fnExactHearBlockUptoCard : Claim7 := { stood := { row := fnExactHearBlockUptoRow, standIns := [], harness := (true, "ae254fcaf4821406d27af6b7523a46efa176d23821000f12f76df1c77239c520"), looks := false }, kinds := [], alts := [], laidByText := true, laidKinds := [.data, .data, .data, .data, .pinned], laidTests := true, laidLooks := .later }
def FnExactHearBlockUptoCardSaid : Prop := Claim7.holds Tryz.pinned (.plain (OpenSpec.upto fnExactHearBlockSpec)) fnExactHearBlockUptoCard
end Rows
end Go.Proofs.YtnkmhndcjjoacaaGreatDoor
