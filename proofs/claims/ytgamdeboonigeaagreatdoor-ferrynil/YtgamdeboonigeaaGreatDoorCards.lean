/-
  DERIVED. GIVEN WITH THE SEED: THE CARDS: each row of YtgamdeboonigeaaGreatDoorRows.lean that lists a variable, with what it lists TIED to the program's text (the seventh form; the later family's looks); each row that meets fmt, with fmt's text TOLD by the authors' own Lean function (tested against real Go, not proved from fmt's source: count such statements apart). THE CARD IS WHAT COUNTS. Prove the row's statement (the work); the ties are given (YtgamdeboonigeaaGreatDoorTie.lean); close each card by the builder's one call (the guide's Derived/Test/ToyasCard.lean, 'card_holds'). Laid BY PROGRAM, IN A SANDBOX (cutbox-door.mjs). By AI agents, Wed Nov 11 2026. No macro, syntax, notation, axiom, sorry.
-/
import Derived.Test.YtgamdeboonigeaaGreatDoorRows
import GoSem.ClaimSeven
namespace Go.Proofs.YtgamdeboonigeaaGreatDoor
namespace Rows

/-- THE TIED CARD OF 'cloisonnelaw31.FerryNil'. -/
def ferryNilCard : Claim7 := { stood := { row := ferryNilRow, standIns := [], harness := (true, "0babe7f27ce60e48ddb6dfbcdb2c990e1ad253dbc424e6a52541695bdb1fcf11"), looks := true }, kinds := [], alts := [], laidByText := true, laidKinds := [.data, .pinned], laidTests := true, laidLooks := .later }
def FerryNilCardSaid : Prop := Claim7.holds Tryz.pinned (.plain (OpenSpec.ofChange ferryNilSpec)) ferryNilCard

/-- THE SECOND FORM's CARD OF 'cloisonnelaw31.FerryNil'. -/
def ferryNilUptoCard : Claim7 := { stood := { row := ferryNilUptoRow, standIns := [], harness := (true, "0babe7f27ce60e48ddb6dfbcdb2c990e1ad253dbc424e6a52541695bdb1fcf11"), looks := true }, kinds := [], alts := [], laidByText := true, laidKinds := [.data, .pinned], laidTests := true, laidLooks := .later }
def FerryNilUptoCardSaid : Prop := Claim7.holds Tryz.pinned (.plain (OpenSpec.upto ferryNilSpec)) ferryNilUptoCard
end Rows
end Go.Proofs.YtgamdeboonigeaaGreatDoor
