/-
  DERIVED. GIVEN WITH THE SEED: THE CARDS: each row of YtahgfnlfihnhcaaGreatDoorRows.lean that lists a variable, with what it lists TIED to the program's text (the seventh form; the later family's looks); each row that meets fmt, with fmt's text TOLD by the authors' own Lean function (tested against real Go, not proved from fmt's source: count such statements apart). THE CARD IS WHAT COUNTS. Prove the row's statement (the work); the ties are given (YtahgfnlfihnhcaaGreatDoorTie.lean); close each card by the builder's one call (the guide's Derived/Test/ToyasCard.lean, 'card_holds'). Laid BY PROGRAM, IN A SANDBOX (cutbox-door.mjs). By AI agents, Wed Nov 11 2026. No macro, syntax, notation, axiom, sorry.
-/
import Derived.Test.YtahgfnlfihnhcaaGreatDoorRows
import GoSem.ClaimSeven
namespace Go.Proofs.YtahgfnlfihnhcaaGreatDoor
namespace Rows

/-- THE TIED CARD OF 'laws.FnExactMayLie'. -/
def fnExactMayLieCard : Claim7 := { stood := { row := fnExactMayLieRow, standIns := [], harness := (true, "b484f7fa51192bf870e29f25884a396c155d58a934312a2ff373094e663a9b69"), looks := false }, kinds := [], alts := [], laidByText := true, laidKinds := [.data, .data, .data, .data, .pinned], laidTests := true, laidLooks := .later }
def FnExactMayLieCardSaid : Prop := Claim7.holds Tryz.pinned (.plain (OpenSpec.ofChange fnExactMayLieSpec)) fnExactMayLieCard

/-- THE TIED CARD OF 'laws.FnExactMsgBytes'. -/
def fnExactMsgBytesCard : Claim7 := { stood := { row := fnExactMsgBytesRow, standIns := [], harness := (true, "b484f7fa51192bf870e29f25884a396c155d58a934312a2ff373094e663a9b69"), looks := false }, kinds := [], alts := [], laidByText := true, laidKinds := [.data, .data, .data, .data, .pinned], laidTests := true, laidLooks := .later }
def FnExactMsgBytesCardSaid : Prop := Claim7.holds Tryz.pinned (.plain (OpenSpec.ofChange fnExactMsgBytesSpec)) fnExactMsgBytesCard

/-- THE TIED CARD OF 'laws.FnExactMsgOf'. -/
def fnExactMsgOfCard : Claim7 := { stood := { row := fnExactMsgOfRow, standIns := [], harness := (true, "b484f7fa51192bf870e29f25884a396c155d58a934312a2ff373094e663a9b69"), looks := false }, kinds := [], alts := [], laidByText := true, laidKinds := [.data, .data, .data, .data, .pinned], laidTests := true, laidLooks := .later }
def FnExactMsgOfCardSaid : Prop := Claim7.holds Tryz.pinned (.plain (OpenSpec.ofChange fnExactMsgOfSpec)) fnExactMsgOfCard

/-- THE TIED CARD OF 'laws.FnMessages'. -/
def fnMessagesCard : Claim7 := { stood := { row := fnMessagesRow, standIns := [], harness := (true, "b484f7fa51192bf870e29f25884a396c155d58a934312a2ff373094e663a9b69"), looks := false }, kinds := [], alts := [], laidByText := true, laidKinds := [.data, .data, .data, .data, .pinned], laidTests := true, laidLooks := .later }
def FnMessagesCardSaid : Prop := Claim7.holds Tryz.pinned (.plain (OpenSpec.ofChange fnMessagesSpec)) fnMessagesCard

/-- THE TIED CARD OF 'laws.FnExactRepOk'. -/
def fnExactRepOkCard : Claim7 := { stood := { row := fnExactRepOkRow, standIns := [], harness := (true, "b484f7fa51192bf870e29f25884a396c155d58a934312a2ff373094e663a9b69"), looks := false }, kinds := [], alts := [], laidByText := true, laidKinds := [.data, .data, .data, .data, .pinned], laidTests := true, laidLooks := .later }
def FnExactRepOkCardSaid : Prop := Claim7.holds Tryz.pinned (.plain (OpenSpec.ofChange fnExactRepOkSpec)) fnExactRepOkCard

/-- THE TIED CARD OF 'laws.FnExactRepNew'. -/
def fnExactRepNewCard : Claim7 := { stood := { row := fnExactRepNewRow, standIns := [], harness := (true, "b484f7fa51192bf870e29f25884a396c155d58a934312a2ff373094e663a9b69"), looks := false }, kinds := [], alts := [], laidByText := true, laidKinds := [.data, .data, .data, .data, .pinned], laidTests := true, laidLooks := .later }
def FnExactRepNewCardSaid : Prop := Claim7.holds Tryz.pinned (.plain (OpenSpec.ofChange fnExactRepNewSpec)) fnExactRepNewCard

/-- THE SECOND FORM's CARD OF 'laws.FnExactMayLie'. -/
def fnExactMayLieUptoCard : Claim7 := { stood := { row := fnExactMayLieUptoRow, standIns := [], harness := (true, "b484f7fa51192bf870e29f25884a396c155d58a934312a2ff373094e663a9b69"), looks := false }, kinds := [], alts := [], laidByText := true, laidKinds := [.data, .data, .data, .data, .pinned], laidTests := true, laidLooks := .later }
def FnExactMayLieUptoCardSaid : Prop := Claim7.holds Tryz.pinned (.plain (OpenSpec.upto fnExactMayLieSpec)) fnExactMayLieUptoCard

/-- THE SECOND FORM's CARD OF 'laws.FnExactMsgBytes'. -/
def fnExactMsgBytesUptoCard : Claim7 := { stood := { row := fnExactMsgBytesUptoRow, standIns := [], harness := (true, "b484f7fa51192bf870e29f25884a396c155d58a934312a2ff373094e663a9b69"), looks := false }, kinds := [], alts := [], laidByText := true, laidKinds := [.data, .data, .data, .data, .pinned], laidTests := true, laidLooks := .later }
def FnExactMsgBytesUptoCardSaid : Prop := Claim7.holds Tryz.pinned (.plain (OpenSpec.upto fnExactMsgBytesSpec)) fnExactMsgBytesUptoCard

/-- THE SECOND FORM's CARD OF 'laws.FnExactMsgOf'. -/
def fnExactMsgOfUptoCard : Claim7 := { stood := { row := fnExactMsgOfUptoRow, standIns := [], harness := (true, "b484f7fa51192bf870e29f25884a396c155d58a934312a2ff373094e663a9b69"), looks := false }, kinds := [], alts := [], laidByText := true, laidKinds := [.data, .data, .data, .data, .pinned], laidTests := true, laidLooks := .later }
def FnExactMsgOfUptoCardSaid : Prop := Claim7.holds Tryz.pinned (.plain (OpenSpec.upto fnExactMsgOfSpec)) fnExactMsgOfUptoCard

/-- THE SECOND FORM's CARD OF 'laws.FnMessages'. -/
def fnMessagesUptoCard : Claim7 := { stood := { row := fnMessagesUptoRow, standIns := [], harness := (true, "b484f7fa51192bf870e29f25884a396c155d58a934312a2ff373094e663a9b69"), looks := false }, kinds := [], alts := [], laidByText := true, laidKinds := [.data, .data, .data, .data, .pinned], laidTests := true, laidLooks := .later }
def FnMessagesUptoCardSaid : Prop := Claim7.holds Tryz.pinned (.plain (OpenSpec.upto fnMessagesSpec)) fnMessagesUptoCard

/-- THE SECOND FORM's CARD OF 'laws.FnExactRepOk'. -/
def fnExactRepOkUptoCard : Claim7 := { stood := { row := fnExactRepOkUptoRow, standIns := [], harness := (true, "b484f7fa51192bf870e29f25884a396c155d58a934312a2ff373094e663a9b69"), looks := false }, kinds := [], alts := [], laidByText := true, laidKinds := [.data, .data, .data, .data, .pinned], laidTests := true, laidLooks := .later }
def FnExactRepOkUptoCardSaid : Prop := Claim7.holds Tryz.pinned (.plain (OpenSpec.upto fnExactRepOkSpec)) fnExactRepOkUptoCard

/-- THE SECOND FORM's CARD OF 'laws.FnExactRepNew'. -/
def fnExactRepNewUptoCard : Claim7 := { stood := { row := fnExactRepNewUptoRow, standIns := [], harness := (true, "b484f7fa51192bf870e29f25884a396c155d58a934312a2ff373094e663a9b69"), looks := false }, kinds := [], alts := [], laidByText := true, laidKinds := [.data, .data, .data, .data, .pinned], laidTests := true, laidLooks := .later }
def FnExactRepNewUptoCardSaid : Prop := Claim7.holds Tryz.pinned (.plain (OpenSpec.upto fnExactRepNewSpec)) fnExactRepNewUptoCard
end Rows
end Go.Proofs.YtahgfnlfihnhcaaGreatDoor
