/-
  DERIVED. GIVEN WITH THE SEED: THE CARDS: each row of YtohchhblpcckmaaGreatDoorRows.lean that lists a variable, with what it lists TIED to the program's text (the seventh form; the later family's looks); each row that meets fmt, with fmt's text TOLD by the authors' own Lean function (tested against real Go, not proved from fmt's source: count such statements apart). THE CARD IS WHAT COUNTS. Prove the row's statement (the work); the ties are given (YtohchhblpcckmaaGreatDoorTie.lean); close each card by the builder's one call (the guide's Derived/Test/ToyasCard.lean, 'card_holds'). Laid BY PROGRAM, IN A SANDBOX (cutbox-door.mjs). By AI agents, Wed Nov 11 2026. No macro, syntax, notation, axiom, sorry.
-/
import Derived.Test.YtohchhblpcckmaaGreatDoorRows
import GoSem.ClaimSeven
namespace Go.Proofs.YtohchhblpcckmaaGreatDoor
namespace Rows

/-- THE TIED CARD OF 'laws.FnTold'. -/
def fnToldCard : Claim7 := { stood := { row := fnToldRow, standIns := [], harness := (true, "d30d4c271416d58e98c53be073d3c81cf9957b36146ebd16414e182fcc9098ae"), looks := false }, kinds := [], alts := [], laidByText := true, laidKinds := [.data, .data, .data, .data, .pinned], laidTests := true, laidLooks := .later }
def FnToldCardSaid : Prop := Claim7.holds Tryz.pinned (.plain (OpenSpec.ofChange fnToldSpec)) fnToldCard

/-- THE TIED CARD OF 'laws.FnLateTold'. -/
def fnLateToldCard : Claim7 := { stood := { row := fnLateToldRow, standIns := [], harness := (true, "d30d4c271416d58e98c53be073d3c81cf9957b36146ebd16414e182fcc9098ae"), looks := false }, kinds := [], alts := [], laidByText := true, laidKinds := [.data, .data, .data, .data, .pinned], laidTests := true, laidLooks := .later }
def FnLateToldCardSaid : Prop := Claim7.holds Tryz.pinned (.plain (OpenSpec.ofChange fnLateToldSpec)) fnLateToldCard

/-- THE TIED CARD OF 'laws.FnPushed'. -/
def fnPushedCard : Claim7 := { stood := { row := fnPushedRow, standIns := [], harness := (true, "d30d4c271416d58e98c53be073d3c81cf9957b36146ebd16414e182fcc9098ae"), looks := false }, kinds := [], alts := [], laidByText := true, laidKinds := [.data, .data, .data, .data, .pinned], laidTests := true, laidLooks := .later }
def FnPushedCardSaid : Prop := Claim7.holds Tryz.pinned (.plain (OpenSpec.ofChange fnPushedSpec)) fnPushedCard

/-- THE SECOND FORM's CARD OF 'laws.FnTold'. -/
def fnToldUptoCard : Claim7 := { stood := { row := fnToldUptoRow, standIns := [], harness := (true, "d30d4c271416d58e98c53be073d3c81cf9957b36146ebd16414e182fcc9098ae"), looks := false }, kinds := [], alts := [], laidByText := true, laidKinds := [.data, .data, .data, .data, .pinned], laidTests := true, laidLooks := .later }
def FnToldUptoCardSaid : Prop := Claim7.holds Tryz.pinned (.plain (OpenSpec.upto fnToldSpec)) fnToldUptoCard

/-- THE SECOND FORM's CARD OF 'laws.FnLateTold'. -/
def fnLateToldUptoCard : Claim7 := { stood := { row := fnLateToldUptoRow, standIns := [], harness := (true, "d30d4c271416d58e98c53be073d3c81cf9957b36146ebd16414e182fcc9098ae"), looks := false }, kinds := [], alts := [], laidByText := true, laidKinds := [.data, .data, .data, .data, .pinned], laidTests := true, laidLooks := .later }
def FnLateToldUptoCardSaid : Prop := Claim7.holds Tryz.pinned (.plain (OpenSpec.upto fnLateToldSpec)) fnLateToldUptoCard

/-- THE SECOND FORM's CARD OF 'laws.FnPushed'. -/
def fnPushedUptoCard : Claim7 := { stood := { row := fnPushedUptoRow, standIns := [], harness := (true, "d30d4c271416d58e98c53be073d3c81cf9957b36146ebd16414e182fcc9098ae"), looks := false }, kinds := [], alts := [], laidByText := true, laidKinds := [.data, .data, .data, .data, .pinned], laidTests := true, laidLooks := .later }
def FnPushedUptoCardSaid : Prop := Claim7.holds Tryz.pinned (.plain (OpenSpec.upto fnPushedSpec)) fnPushedUptoCard
end Rows
end Go.Proofs.YtohchhblpcckmaaGreatDoor
