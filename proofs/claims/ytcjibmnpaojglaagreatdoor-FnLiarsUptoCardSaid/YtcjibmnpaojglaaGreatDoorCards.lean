/-
  DERIVED. GIVEN WITH THE SEED: THE CARDS: each row of YtcjibmnpaojglaaGreatDoorRows.lean that lists a variable, with what it lists TIED to the program's text (the seventh form; the later family's looks); each row that meets fmt, with fmt's text TOLD by the authors' own Lean function (tested against real Go, not proved from fmt's source: count such statements apart). THE CARD IS WHAT COUNTS. Prove the row's statement (the work); the ties are given (YtcjibmnpaojglaaGreatDoorTie.lean); close each card by the builder's one call (the guide's Derived/Test/ToyasCard.lean, 'card_holds'). Laid BY PROGRAM, IN A SANDBOX (cutbox-door.mjs). By AI agents, Wed Nov 11 2026. No macro, syntax, notation, axiom, sorry.
-/
import Derived.Test.YtcjibmnpaojglaaGreatDoorRows
import GoSem.ClaimSeven
namespace Go.Proofs.YtcjibmnpaojglaaGreatDoor
namespace Rows

/-- THE TIED CARD OF 'laws.FnLiars'. -/
def fnLiarsCard : Claim7 := { stood := { row := fnLiarsRow, standIns := [], harness := (true, "adee17fbd792f592ac29b5d8df1fb23f8338528d2a5d32f3bb38921f467cec11"), looks := false }, kinds := [], alts := [], laidByText := true, laidKinds := [.data, .data, .data, .data, .pinned], laidTests := true, laidLooks := .later }
def FnLiarsCardSaid : Prop := Claim7.holds Tryz.pinned (.plain (OpenSpec.ofChange fnLiarsSpec)) fnLiarsCard

/-- THE SECOND FORM's CARD OF 'laws.FnLiars'. -/
def fnLiarsUptoCard : Claim7 := { stood := { row := fnLiarsUptoRow, standIns := [], harness := (true, "adee17fbd792f592ac29b5d8df1fb23f8338528d2a5d32f3bb38921f467cec11"), looks := false }, kinds := [], alts := [], laidByText := true, laidKinds := [.data, .data, .data, .data, .pinned], laidTests := true, laidLooks := .later }
def FnLiarsUptoCardSaid : Prop := Claim7.holds Tryz.pinned (.plain (OpenSpec.upto fnLiarsSpec)) fnLiarsUptoCard
end Rows
end Go.Proofs.YtcjibmnpaojglaaGreatDoor
