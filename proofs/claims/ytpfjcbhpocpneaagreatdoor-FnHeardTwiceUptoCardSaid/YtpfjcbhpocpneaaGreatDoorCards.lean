/-
  DERIVED. GIVEN WITH THE SEED: THE CARDS: each row of YtpfjcbhpocpneaaGreatDoorRows.lean that lists a variable, with what it lists TIED to the program's text (the seventh form; the later family's looks); each row that meets fmt, with fmt's text TOLD by the authors' own Lean function (tested against real Go, not proved from fmt's source: count such statements apart). THE CARD IS WHAT COUNTS. Prove the row's statement (the work); the ties are given (YtpfjcbhpocpneaaGreatDoorTie.lean); close each card by the builder's one call (the guide's Derived/Test/ToyasCard.lean, 'card_holds'). Laid BY PROGRAM, IN A SANDBOX (cutbox-door.mjs). By AI agents, Wed Nov 11 2026. No macro, syntax, notation, axiom, sorry.
-/
import Derived.Test.YtpfjcbhpocpneaaGreatDoorRows
import GoSem.ClaimSeven
namespace Go.Proofs.YtpfjcbhpocpneaaGreatDoor
namespace Rows

/-- THE TIED CARD OF 'laws.FnReps'. -/
def fnRepsCard : Claim7 := { stood := { row := fnRepsRow, standIns := [], harness := (true, "3b39307e72164435ca2a69f257493036a93dbf28788a5f8358a8d732f3a3a70c"), looks := false }, kinds := [], alts := [], laidByText := true, laidKinds := [.data, .data, .data, .data, .pinned], laidTests := true, laidLooks := .later }
def FnRepsCardSaid : Prop := Claim7.holds Tryz.pinned (.plain (OpenSpec.ofChange fnRepsSpec)) fnRepsCard

/-- THE TIED CARD OF 'laws.FnOldBlocks'. -/
def fnOldBlocksCard : Claim7 := { stood := { row := fnOldBlocksRow, standIns := [], harness := (true, "3b39307e72164435ca2a69f257493036a93dbf28788a5f8358a8d732f3a3a70c"), looks := false }, kinds := [], alts := [], laidByText := true, laidKinds := [.data, .data, .data, .data, .pinned], laidTests := true, laidLooks := .later }
def FnOldBlocksCardSaid : Prop := Claim7.holds Tryz.pinned (.plain (OpenSpec.ofChange fnOldBlocksSpec)) fnOldBlocksCard

/-- THE TIED CARD OF 'laws.FnHeardTwice'. -/
def fnHeardTwiceCard : Claim7 := { stood := { row := fnHeardTwiceRow, standIns := [], harness := (true, "3b39307e72164435ca2a69f257493036a93dbf28788a5f8358a8d732f3a3a70c"), looks := false }, kinds := [], alts := [], laidByText := true, laidKinds := [.data, .data, .data, .data, .pinned], laidTests := true, laidLooks := .later }
def FnHeardTwiceCardSaid : Prop := Claim7.holds Tryz.pinned (.plain (OpenSpec.ofChange fnHeardTwiceSpec)) fnHeardTwiceCard

/-- THE SECOND FORM's CARD OF 'laws.FnReps'. -/
def fnRepsUptoCard : Claim7 := { stood := { row := fnRepsUptoRow, standIns := [], harness := (true, "3b39307e72164435ca2a69f257493036a93dbf28788a5f8358a8d732f3a3a70c"), looks := false }, kinds := [], alts := [], laidByText := true, laidKinds := [.data, .data, .data, .data, .pinned], laidTests := true, laidLooks := .later }
def FnRepsUptoCardSaid : Prop := Claim7.holds Tryz.pinned (.plain (OpenSpec.upto fnRepsSpec)) fnRepsUptoCard

/-- THE SECOND FORM's CARD OF 'laws.FnOldBlocks'. -/
def fnOldBlocksUptoCard : Claim7 := { stood := { row := fnOldBlocksUptoRow, standIns := [], harness := (true, "3b39307e72164435ca2a69f257493036a93dbf28788a5f8358a8d732f3a3a70c"), looks := false }, kinds := [], alts := [], laidByText := true, laidKinds := [.data, .data, .data, .data, .pinned], laidTests := true, laidLooks := .later }
def FnOldBlocksUptoCardSaid : Prop := Claim7.holds Tryz.pinned (.plain (OpenSpec.upto fnOldBlocksSpec)) fnOldBlocksUptoCard

/-- THE SECOND FORM's CARD OF 'laws.FnHeardTwice'. -/
def fnHeardTwiceUptoCard : Claim7 := { stood := { row := fnHeardTwiceUptoRow, standIns := [], harness := (true, "3b39307e72164435ca2a69f257493036a93dbf28788a5f8358a8d732f3a3a70c"), looks := false }, kinds := [], alts := [], laidByText := true, laidKinds := [.data, .data, .data, .data, .pinned], laidTests := true, laidLooks := .later }
def FnHeardTwiceUptoCardSaid : Prop := Claim7.holds Tryz.pinned (.plain (OpenSpec.upto fnHeardTwiceSpec)) fnHeardTwiceUptoCard
end Rows
end Go.Proofs.YtpfjcbhpocpneaaGreatDoor
