/-
  DERIVED. GIVEN WITH THE SEED: THE CARDS: each row of YtcpjfipnagidgaaGreatDoorRows.lean that lists a variable, with what it lists TIED to the program's text (the seventh form; the later family's looks); each row that meets fmt, with fmt's text TOLD by the authors' own Lean function (tested against real Go, not proved from fmt's source: count such statements apart). THE CARD IS WHAT COUNTS. Prove the row's statement (the work); the ties are given (YtcpjfipnagidgaaGreatDoorTie.lean); close each card by the builder's one call (the guide's Derived/Test/ToyasCard.lean, 'card_holds'). Laid BY PROGRAM, IN A SANDBOX (cutbox-door.mjs). By AI agents, Wed Nov 11 2026. No macro, syntax, notation, axiom, sorry.
-/
import Derived.Test.YtcpjfipnagidgaaGreatDoorRows
import GoSem.ClaimSeven
namespace Go.Proofs.YtcpjfipnagidgaaGreatDoor
namespace Rows

/-- THE TIED CARD OF 'laws.FnCertified'. -/
def fnCertifiedCard : Claim7 := { stood := { row := fnCertifiedRow, standIns := [], harness := (true, "92255e28d61f47b46a51482692c505a673fbd8a7198211dba8301780d48ee595"), looks := false }, kinds := [], alts := [], laidByText := true, laidKinds := [.data, .data, .data, .data, .pinned], laidTests := true, laidLooks := .later }
def FnCertifiedCardSaid : Prop := Claim7.holds Tryz.pinned (.plain (OpenSpec.ofChange fnCertifiedSpec)) fnCertifiedCard

/-- THE TIED CARD OF 'laws.FnExactMsgOk'. -/
def fnExactMsgOkCard : Claim7 := { stood := { row := fnExactMsgOkRow, standIns := [], harness := (true, "92255e28d61f47b46a51482692c505a673fbd8a7198211dba8301780d48ee595"), looks := false }, kinds := [], alts := [], laidByText := true, laidKinds := [.data, .data, .data, .data, .pinned], laidTests := true, laidLooks := .later }
def FnExactMsgOkCardSaid : Prop := Claim7.holds Tryz.pinned (.plain (OpenSpec.ofChange fnExactMsgOkSpec)) fnExactMsgOkCard

/-- THE TIED CARD OF 'laws.FnExactMayLie'. -/
def fnExactMayLieCard : Claim7 := { stood := { row := fnExactMayLieRow, standIns := [], harness := (true, "92255e28d61f47b46a51482692c505a673fbd8a7198211dba8301780d48ee595"), looks := false }, kinds := [], alts := [], laidByText := true, laidKinds := [.data, .data, .data, .data, .pinned], laidTests := true, laidLooks := .later }
def FnExactMayLieCardSaid : Prop := Claim7.holds Tryz.pinned (.plain (OpenSpec.ofChange fnExactMayLieSpec)) fnExactMayLieCard

/-- THE TIED CARD OF 'laws.FnExactMsgBytes'. -/
def fnExactMsgBytesCard : Claim7 := { stood := { row := fnExactMsgBytesRow, standIns := [], harness := (true, "92255e28d61f47b46a51482692c505a673fbd8a7198211dba8301780d48ee595"), looks := false }, kinds := [], alts := [], laidByText := true, laidKinds := [.data, .data, .data, .data, .pinned], laidTests := true, laidLooks := .later }
def FnExactMsgBytesCardSaid : Prop := Claim7.holds Tryz.pinned (.plain (OpenSpec.ofChange fnExactMsgBytesSpec)) fnExactMsgBytesCard

/-- THE TIED CARD OF 'laws.FnExactMsgOf'. -/
def fnExactMsgOfCard : Claim7 := { stood := { row := fnExactMsgOfRow, standIns := [], harness := (true, "92255e28d61f47b46a51482692c505a673fbd8a7198211dba8301780d48ee595"), looks := false }, kinds := [], alts := [], laidByText := true, laidKinds := [.data, .data, .data, .data, .pinned], laidTests := true, laidLooks := .later }
def FnExactMsgOfCardSaid : Prop := Claim7.holds Tryz.pinned (.plain (OpenSpec.ofChange fnExactMsgOfSpec)) fnExactMsgOfCard

/-- THE SECOND FORM's CARD OF 'laws.FnCertified'. -/
def fnCertifiedUptoCard : Claim7 := { stood := { row := fnCertifiedUptoRow, standIns := [], harness := (true, "92255e28d61f47b46a51482692c505a673fbd8a7198211dba8301780d48ee595"), looks := false }, kinds := [], alts := [], laidByText := true, laidKinds := [.data, .data, .data, .data, .pinned], laidTests := true, laidLooks := .later }
def FnCertifiedUptoCardSaid : Prop := Claim7.holds Tryz.pinned (.plain (OpenSpec.upto fnCertifiedSpec)) fnCertifiedUptoCard

/-- THE SECOND FORM's CARD OF 'laws.FnExactMsgOk'. -/
def fnExactMsgOkUptoCard : Claim7 := { stood := { row := fnExactMsgOkUptoRow, standIns := [], harness := (true, "92255e28d61f47b46a51482692c505a673fbd8a7198211dba8301780d48ee595"), looks := false }, kinds := [], alts := [], laidByText := true, laidKinds := [.data, .data, .data, .data, .pinned], laidTests := true, laidLooks := .later }
def FnExactMsgOkUptoCardSaid : Prop := Claim7.holds Tryz.pinned (.plain (OpenSpec.upto fnExactMsgOkSpec)) fnExactMsgOkUptoCard

/-- THE SECOND FORM's CARD OF 'laws.FnExactMayLie'. -/
def fnExactMayLieUptoCard : Claim7 := { stood := { row := fnExactMayLieUptoRow, standIns := [], harness := (true, "92255e28d61f47b46a51482692c505a673fbd8a7198211dba8301780d48ee595"), looks := false }, kinds := [], alts := [], laidByText := true, laidKinds := [.data, .data, .data, .data, .pinned], laidTests := true, laidLooks := .later }
def FnExactMayLieUptoCardSaid : Prop := Claim7.holds Tryz.pinned (.plain (OpenSpec.upto fnExactMayLieSpec)) fnExactMayLieUptoCard

/-- THE SECOND FORM's CARD OF 'laws.FnExactMsgBytes'. -/
def fnExactMsgBytesUptoCard : Claim7 := { stood := { row := fnExactMsgBytesUptoRow, standIns := [], harness := (true, "92255e28d61f47b46a51482692c505a673fbd8a7198211dba8301780d48ee595"), looks := false }, kinds := [], alts := [], laidByText := true, laidKinds := [.data, .data, .data, .data, .pinned], laidTests := true, laidLooks := .later }
def FnExactMsgBytesUptoCardSaid : Prop := Claim7.holds Tryz.pinned (.plain (OpenSpec.upto fnExactMsgBytesSpec)) fnExactMsgBytesUptoCard

/-- THE SECOND FORM's CARD OF 'laws.FnExactMsgOf'. -/
def fnExactMsgOfUptoCard : Claim7 := { stood := { row := fnExactMsgOfUptoRow, standIns := [], harness := (true, "92255e28d61f47b46a51482692c505a673fbd8a7198211dba8301780d48ee595"), looks := false }, kinds := [], alts := [], laidByText := true, laidKinds := [.data, .data, .data, .data, .pinned], laidTests := true, laidLooks := .later }
def FnExactMsgOfUptoCardSaid : Prop := Claim7.holds Tryz.pinned (.plain (OpenSpec.upto fnExactMsgOfSpec)) fnExactMsgOfUptoCard
end Rows
end Go.Proofs.YtcpjfipnagidgaaGreatDoor
