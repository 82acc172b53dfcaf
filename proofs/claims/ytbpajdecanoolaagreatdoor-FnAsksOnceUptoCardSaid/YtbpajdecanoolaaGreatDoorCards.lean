/-
  DERIVED. GIVEN WITH THE SEED: THE CARDS: each row of YtbpajdecanoolaaGreatDoorRows.lean that lists a variable, with what it lists TIED to the program's text (the seventh form; the later family's looks); each row that meets fmt, with fmt's text TOLD by the authors' own Lean function (tested against real Go, not proved from fmt's source: count such statements apart). THE CARD IS WHAT COUNTS. Prove the row's statement (the work); the ties are given (YtbpajdecanoolaaGreatDoorTie.lean); close each card by the builder's one call (the guide's Derived/Test/ToyasCard.lean, 'card_holds'). Laid BY PROGRAM, IN A SANDBOX (cutbox-door.mjs). By AI agents, Wed Nov 11 2026. No macro, syntax, notation, axiom, sorry.
-/
import Derived.Test.YtbpajdecanoolaaGreatDoorRows
import GoSem.ClaimSeven
namespace Go.Proofs.YtbpajdecanoolaaGreatDoor
namespace Rows

/-- THE TIED CARD OF 'laws.FnForged'. -/
def fnForgedCard : Claim7 := { stood := { row := fnForgedRow, standIns := [], harness := (true, "490ebd340ecff290ef99b775e0b2ef2fb13d418daa7aaeb71cad5946b12e54f3"), looks := false }, kinds := [], alts := [], laidByText := true, laidKinds := [.data, .data, .data, .data, .pinned], laidTests := true, laidLooks := .later }
def FnForgedCardSaid : Prop := Claim7.holds Tryz.pinned (.plain (OpenSpec.ofChange fnForgedSpec)) fnForgedCard

/-- THE TIED CARD OF 'laws.FnAsksOnce'. -/
def fnAsksOnceCard : Claim7 := { stood := { row := fnAsksOnceRow, standIns := [], harness := (true, "490ebd340ecff290ef99b775e0b2ef2fb13d418daa7aaeb71cad5946b12e54f3"), looks := false }, kinds := [], alts := [], laidByText := true, laidKinds := [.data, .data, .data, .data, .pinned], laidTests := true, laidLooks := .later }
def FnAsksOnceCardSaid : Prop := Claim7.holds Tryz.pinned (.plain (OpenSpec.ofChange fnAsksOnceSpec)) fnAsksOnceCard

/-- THE TIED CARD OF 'laws.FnLiarsIdle'. -/
def fnLiarsIdleCard : Claim7 := { stood := { row := fnLiarsIdleRow, standIns := [], harness := (true, "490ebd340ecff290ef99b775e0b2ef2fb13d418daa7aaeb71cad5946b12e54f3"), looks := false }, kinds := [], alts := [], laidByText := true, laidKinds := [.data, .data, .data, .data, .pinned], laidTests := true, laidLooks := .later }
def FnLiarsIdleCardSaid : Prop := Claim7.holds Tryz.pinned (.plain (OpenSpec.ofChange fnLiarsIdleSpec)) fnLiarsIdleCard

/-- THE SECOND FORM's CARD OF 'laws.FnForged'. -/
def fnForgedUptoCard : Claim7 := { stood := { row := fnForgedUptoRow, standIns := [], harness := (true, "490ebd340ecff290ef99b775e0b2ef2fb13d418daa7aaeb71cad5946b12e54f3"), looks := false }, kinds := [], alts := [], laidByText := true, laidKinds := [.data, .data, .data, .data, .pinned], laidTests := true, laidLooks := .later }
def FnForgedUptoCardSaid : Prop := Claim7.holds Tryz.pinned (.plain (OpenSpec.upto fnForgedSpec)) fnForgedUptoCard

/-- THE SECOND FORM's CARD OF 'laws.FnAsksOnce'. -/
def fnAsksOnceUptoCard : Claim7 := { stood := { row := fnAsksOnceUptoRow, standIns := [], harness := (true, "490ebd340ecff290ef99b775e0b2ef2fb13d418daa7aaeb71cad5946b12e54f3"), looks := false }, kinds := [], alts := [], laidByText := true, laidKinds := [.data, .data, .data, .data, .pinned], laidTests := true, laidLooks := .later }
def FnAsksOnceUptoCardSaid : Prop := Claim7.holds Tryz.pinned (.plain (OpenSpec.upto fnAsksOnceSpec)) fnAsksOnceUptoCard

/-- THE SECOND FORM's CARD OF 'laws.FnLiarsIdle'. -/
def fnLiarsIdleUptoCard : Claim7 := { stood := { row := fnLiarsIdleUptoRow, standIns := [], harness := (true, "490ebd340ecff290ef99b775e0b2ef2fb13d418daa7aaeb71cad5946b12e54f3"), looks := false }, kinds := [], alts := [], laidByText := true, laidKinds := [.data, .data, .data, .data, .pinned], laidTests := true, laidLooks := .later }
def FnLiarsIdleUptoCardSaid : Prop := Claim7.holds Tryz.pinned (.plain (OpenSpec.upto fnLiarsIdleSpec)) fnLiarsIdleUptoCard
end Rows
end Go.Proofs.YtbpajdecanoolaaGreatDoor
