/-
  DERIVED. GIVEN WITH THE SEED: THE CARDS: each row of YtomfhpabkkanfaaGreatDoorRows.lean that lists a variable, with what it lists TIED to the program's text (the seventh form; the later family's looks); each row that meets fmt, with fmt's text TOLD by the authors' own Lean function (tested against real Go, not proved from fmt's source: count such statements apart). THE CARD IS WHAT COUNTS. Prove the row's statement (the work); the ties are given (YtomfhpabkkanfaaGreatDoorTie.lean); close each card by the builder's one call (the guide's Derived/Test/ToyasCard.lean, 'card_holds'). Laid BY PROGRAM, IN A SANDBOX (cutbox-door.mjs). By AI agents, Wed Nov 11 2026. No macro, syntax, notation, axiom, sorry.
-/
import Derived.Test.YtomfhpabkkanfaaGreatDoorRows
import GoSem.ClaimSeven
namespace Go.Proofs.YtomfhpabkkanfaaGreatDoor
namespace Rows

/-- THE TIED CARD OF 'laws.FnExactTell'. -/
def fnExactTellCard : Claim7 := { stood := { row := fnExactTellRow, standIns := [], harness := (true, "830fca910b748a5b6ab2e10e7418b7765a9acf505956850b96b348cfb99e3c56"), looks := false }, kinds := [], alts := [], laidByText := true, laidKinds := [.data, .data, .data, .data, .pinned], laidTests := true, laidLooks := .later }
def FnExactTellCardSaid : Prop := Claim7.holds Tryz.pinned (.plain (OpenSpec.ofChange fnExactTellSpec)) fnExactTellCard

/-- THE TIED CARD OF 'laws.FnExactTellAll'. -/
def fnExactTellAllCard : Claim7 := { stood := { row := fnExactTellAllRow, standIns := [], harness := (true, "830fca910b748a5b6ab2e10e7418b7765a9acf505956850b96b348cfb99e3c56"), looks := false }, kinds := [], alts := [], laidByText := true, laidKinds := [.data, .data, .data, .data, .pinned], laidTests := true, laidLooks := .later }
def FnExactTellAllCardSaid : Prop := Claim7.holds Tryz.pinned (.plain (OpenSpec.ofChange fnExactTellAllSpec)) fnExactTellAllCard

/-- THE TIED CARD OF 'laws.FnExactWrite'. -/
def fnExactWriteCard : Claim7 := { stood := { row := fnExactWriteRow, standIns := [], harness := (true, "830fca910b748a5b6ab2e10e7418b7765a9acf505956850b96b348cfb99e3c56"), looks := false }, kinds := [], alts := [], laidByText := true, laidKinds := [.data, .data, .data, .data, .pinned], laidTests := true, laidLooks := .later }
def FnExactWriteCardSaid : Prop := Claim7.holds Tryz.pinned (.plain (OpenSpec.ofChange fnExactWriteSpec)) fnExactWriteCard

/-- THE TIED CARD OF 'laws.FnExactHearTx'. -/
def fnExactHearTxCard : Claim7 := { stood := { row := fnExactHearTxRow, standIns := [], harness := (true, "830fca910b748a5b6ab2e10e7418b7765a9acf505956850b96b348cfb99e3c56"), looks := false }, kinds := [], alts := [], laidByText := true, laidKinds := [.data, .data, .data, .data, .pinned], laidTests := true, laidLooks := .later }
def FnExactHearTxCardSaid : Prop := Claim7.holds Tryz.pinned (.plain (OpenSpec.ofChange fnExactHearTxSpec)) fnExactHearTxCard

/-- THE TIED CARD OF 'laws.FnExactRise'. -/
def fnExactRiseCard : Claim7 := { stood := { row := fnExactRiseRow, standIns := [], harness := (true, "830fca910b748a5b6ab2e10e7418b7765a9acf505956850b96b348cfb99e3c56"), looks := false }, kinds := [], alts := [], laidByText := true, laidKinds := [.data, .data, .data, .data, .pinned], laidTests := true, laidLooks := .later }
def FnExactRiseCardSaid : Prop := Claim7.holds Tryz.pinned (.plain (OpenSpec.ofChange fnExactRiseSpec)) fnExactRiseCard

/-- THE TIED CARD OF 'laws.FnExactLate'. -/
def fnExactLateCard : Claim7 := { stood := { row := fnExactLateRow, standIns := [], harness := (true, "830fca910b748a5b6ab2e10e7418b7765a9acf505956850b96b348cfb99e3c56"), looks := false }, kinds := [], alts := [], laidByText := true, laidKinds := [.data, .data, .data, .data, .pinned], laidTests := true, laidLooks := .later }
def FnExactLateCardSaid : Prop := Claim7.holds Tryz.pinned (.plain (OpenSpec.ofChange fnExactLateSpec)) fnExactLateCard

/-- THE SECOND FORM's CARD OF 'laws.FnExactTell'. -/
def fnExactTellUptoCard : Claim7 := { stood := { row := fnExactTellUptoRow, standIns := [], harness := (true, "830fca910b748a5b6ab2e10e7418b7765a9acf505956850b96b348cfb99e3c56"), looks := false }, kinds := [], alts := [], laidByText := true, laidKinds := [.data, .data, .data, .data, .pinned], laidTests := true, laidLooks := .later }
def FnExactTellUptoCardSaid : Prop := Claim7.holds Tryz.pinned (.plain (OpenSpec.upto fnExactTellSpec)) fnExactTellUptoCard

/-- THE SECOND FORM's CARD OF 'laws.FnExactTellAll'. -/
def fnExactTellAllUptoCard : Claim7 := { stood := { row := fnExactTellAllUptoRow, standIns := [], harness := (true, "830fca910b748a5b6ab2e10e7418b7765a9acf505956850b96b348cfb99e3c56"), looks := false }, kinds := [], alts := [], laidByText := true, laidKinds := [.data, .data, .data, .data, .pinned], laidTests := true, laidLooks := .later }
def FnExactTellAllUptoCardSaid : Prop := Claim7.holds Tryz.pinned (.plain (OpenSpec.upto fnExactTellAllSpec)) fnExactTellAllUptoCard

/-- THE SECOND FORM's CARD OF 'laws.FnExactWrite'. -/
def fnExactWriteUptoCard : Claim7 := { stood := { row := fnExactWriteUptoRow, standIns := [], harness := (true, "830fca910b748a5b6ab2e10e7418b7765a9acf505956850b96b348cfb99e3c56"), looks := false }, kinds := [], alts := [], laidByText := true, laidKinds := [.data, .data, .data, .data, .pinned], laidTests := true, laidLooks := .later }
def FnExactWriteUptoCardSaid : Prop := Claim7.holds Tryz.pinned (.plain (OpenSpec.upto fnExactWriteSpec)) fnExactWriteUptoCard

/-- THE SECOND FORM's CARD OF 'laws.FnExactHearTx'. -/
def fnExactHearTxUptoCard : Claim7 := { stood := { row := fnExactHearTxUptoRow, standIns := [], harness := (true, "830fca910b748a5b6ab2e10e7418b7765a9acf505956850b96b348cfb99e3c56"), looks := false }, kinds := [], alts := [], laidByText := true, laidKinds := [.data, .data, .data, .data, .pinned], laidTests := true, laidLooks := .later }
def FnExactHearTxUptoCardSaid : Prop := Claim7.holds Tryz.pinned (.plain (OpenSpec.upto fnExactHearTxSpec)) fnExactHearTxUptoCard

/-- THE SECOND FORM's CARD OF 'laws.FnExactRise'. -/
def fnExactRiseUptoCard : Claim7 := { stood := { row := fnExactRiseUptoRow, standIns := [], harness := (true, "830fca910b748a5b6ab2e10e7418b7765a9acf505956850b96b348cfb99e3c56"), looks := false }, kinds := [], alts := [], laidByText := true, laidKinds := [.data, .data, .data, .data, .pinned], laidTests := true, laidLooks := .later }
def FnExactRiseUptoCardSaid : Prop := Claim7.holds Tryz.pinned (.plain (OpenSpec.upto fnExactRiseSpec)) fnExactRiseUptoCard

/-- THE SECOND FORM's CARD OF 'laws.FnExactLate'. -/
def fnExactLateUptoCard : Claim7 := { stood := { row := fnExactLateUptoRow, standIns := [], harness := (true, "830fca910b748a5b6ab2e10e7418b7765a9acf505956850b96b348cfb99e3c56"), looks := false }, kinds := [], alts := [], laidByText := true, laidKinds := [.data, .data, .data, .data, .pinned], laidTests := true, laidLooks := .later }
def FnExactLateUptoCardSaid : Prop := Claim7.holds Tryz.pinned (.plain (OpenSpec.upto fnExactLateSpec)) fnExactLateUptoCard
end Rows
end Go.Proofs.YtomfhpabkkanfaaGreatDoor
