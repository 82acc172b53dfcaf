/-
  DERIVED. GIVEN WITH THE SEED: THE CARDS: each row of YthcbhmiocejpjaaGreatDoorRows.lean that lists a variable, with what it lists TIED to the program's text (the seventh form; the later family's looks); each row that meets fmt, with fmt's text TOLD by the authors' own Lean function (tested against real Go, not proved from fmt's source: count such statements apart). THE CARD IS WHAT COUNTS. Prove the row's statement (the work); the ties are given (YthcbhmiocejpjaaGreatDoorTie.lean); close each card by the builder's one call (the guide's Derived/Test/ToyasCard.lean, 'card_holds'). Laid BY PROGRAM, IN A SANDBOX (cutbox-door.mjs). By AI agents, Wed Nov 11 2026. No macro, syntax, notation, axiom, sorry.
-/
import Derived.Test.YthcbhmiocejpjaaGreatDoorRows
import GoSem.ClaimSeven
namespace Go.Proofs.YthcbhmiocejpjaaGreatDoor
namespace Rows

/-- THE TIED CARD OF 'laws.FnCertified'. -/
def fnCertifiedCard : Claim7 := { stood := { row := fnCertifiedRow, standIns := [], harness := (true, "7b8cc094a17e3e527393e2d0203cc94a1853073bc7b78eff014ce27da68e8ca8"), looks := false }, kinds := [], alts := [], laidByText := true, laidKinds := [.data, .data, .data, .data, .pinned], laidTests := true, laidLooks := .later }
def FnCertifiedCardSaid : Prop := Claim7.holds Tryz.pinned (.plain (OpenSpec.ofChange fnCertifiedSpec)) fnCertifiedCard

/-- THE SECOND FORM's CARD OF 'laws.FnCertified'. -/
def fnCertifiedUptoCard : Claim7 := { stood := { row := fnCertifiedUptoRow, standIns := [], harness := (true, "7b8cc094a17e3e527393e2d0203cc94a1853073bc7b78eff014ce27da68e8ca8"), looks := false }, kinds := [], alts := [], laidByText := true, laidKinds := [.data, .data, .data, .data, .pinned], laidTests := true, laidLooks := .later }
def FnCertifiedUptoCardSaid : Prop := Claim7.holds Tryz.pinned (.plain (OpenSpec.upto fnCertifiedSpec)) fnCertifiedUptoCard
end Rows
end Go.Proofs.YthcbhmiocejpjaaGreatDoor
