/-
  DERIVED. GIVEN WITH THE SEED: THE CARDS: each row of YtppjgjdlnikigaaGreatDoorRows.lean that lists a variable, with what it lists TIED to the program's text (the seventh form; the later family's looks); each row that meets fmt, with fmt's text TOLD by the authors' own Lean function (tested against real Go, not proved from fmt's source: count such statements apart). THE CARD IS WHAT COUNTS. Prove the row's statement (the work); the ties are given (YtppjgjdlnikigaaGreatDoorTie.lean); close each card by the builder's one call (the guide's Derived/Test/ToyasCard.lean, 'card_holds'). Laid BY PROGRAM, IN A SANDBOX (cutbox-door.mjs). By AI agents, Wed Nov 11 2026. No macro, syntax, notation, axiom, sorry.
-/
import Derived.Test.YtppjgjdlnikigaaGreatDoorRows
import GoSem.ClaimSeven
namespace Go.Proofs.YtppjgjdlnikigaaGreatDoor
namespace Rows

/-- THE TIED CARD OF 'laws.FnReps'. -/
def fnRepsCard : Claim7 := { stood := { row := fnRepsRow, standIns := [], harness := (true, "f07531a488ecdbcdf47a7ed407afb91e86aa2341769d198436c0fecf5b3617b7"), looks := false }, kinds := [], alts := [], laidByText := true, laidKinds := [.data, .data, .data, .data, .pinned], laidTests := true, laidLooks := .later }
def FnRepsCardSaid : Prop := Claim7.holds Tryz.pinned (.plain (OpenSpec.ofChange fnRepsSpec)) fnRepsCard

/-- THE TIED CARD OF 'laws.FnActs'. -/
def fnActsCard : Claim7 := { stood := { row := fnActsRow, standIns := [], harness := (true, "f07531a488ecdbcdf47a7ed407afb91e86aa2341769d198436c0fecf5b3617b7"), looks := false }, kinds := [], alts := [], laidByText := true, laidKinds := [.data, .data, .data, .data, .pinned], laidTests := true, laidLooks := .later }
def FnActsCardSaid : Prop := Claim7.holds Tryz.pinned (.plain (OpenSpec.ofChange fnActsSpec)) fnActsCard

/-- THE SECOND FORM's CARD OF 'laws.FnReps'. -/
def fnRepsUptoCard : Claim7 := { stood := { row := fnRepsUptoRow, standIns := [], harness := (true, "f07531a488ecdbcdf47a7ed407afb91e86aa2341769d198436c0fecf5b3617b7"), looks := false }, kinds := [], alts := [], laidByText := true, laidKinds := [.data, .data, .data, .data, .pinned], laidTests := true, laidLooks := .later }
def FnRepsUptoCardSaid : Prop := Claim7.holds Tryz.pinned (.plain (OpenSpec.upto fnRepsSpec)) fnRepsUptoCard

/-- THE SECOND FORM's CARD OF 'laws.FnActs'. -/
def fnActsUptoCard : Claim7 := { stood := { row := fnActsUptoRow, standIns := [], harness := (true, "f07531a488ecdbcdf47a7ed407afb91e86aa2341769d198436c0fecf5b3617b7"), looks := false }, kinds := [], alts := [], laidByText := true, laidKinds := [.data, .data, .data, .data, .pinned], laidTests := true, laidLooks := .later }
def FnActsUptoCardSaid : Prop := Claim7.holds Tryz.pinned (.plain (OpenSpec.upto fnActsSpec)) fnActsUptoCard
end Rows
end Go.Proofs.YtppjgjdlnikigaaGreatDoor
