/-
  DERIVED. GIVEN WITH THE SEED: THE CARDS: each row of YtkgaejjkmkfobaaGreatDoorRows.lean that lists a variable, with what it lists TIED to the program's text (the seventh form; the later family's looks); each row that meets fmt, with fmt's text TOLD by the authors' own Lean function (tested against real Go, not proved from fmt's source: count such statements apart). THE CARD IS WHAT COUNTS. Prove the row's statement (the work); the ties are given (YtkgaejjkmkfobaaGreatDoorTie.lean); close each card by the builder's one call (the guide's Derived/Test/ToyasCard.lean, 'card_holds'). Laid BY PROGRAM, IN A SANDBOX (cutbox-door.mjs). By AI agents, Wed Nov 11 2026. No macro, syntax, notation, axiom, sorry.
-/
import Derived.Test.YtkgaejjkmkfobaaGreatDoorRows
import GoSem.ClaimSeven
namespace Go.Proofs.YtkgaejjkmkfobaaGreatDoor
namespace Rows

/-- THE TIED CARD OF 'cloisonnelaw24.CutNil'. -/
def cutNilCard : Claim7 := { stood := { row := cutNilRow, standIns := [], harness := (true, "dadff016247dcf8b73e9c5ad693fa5d4eb58b883db22ebc14c68982d8c2e6d01"), looks := true }, kinds := [], alts := [], laidByText := true, laidKinds := [.data, .pinned], laidTests := true, laidLooks := .later }
def CutNilCardSaid : Prop := Claim7.holds Tryz.pinned (.plain (OpenSpec.ofChange cutNilSpec)) cutNilCard

/-- THE TIED CARD OF 'cloisonnelaw22.DeskNil'. -/
def deskNilCard : Claim7 := { stood := { row := deskNilRow, standIns := [], harness := (true, "dadff016247dcf8b73e9c5ad693fa5d4eb58b883db22ebc14c68982d8c2e6d01"), looks := true }, kinds := [], alts := [], laidByText := true, laidKinds := [.data, .pinned], laidTests := true, laidLooks := .later }
def DeskNilCardSaid : Prop := Claim7.holds Tryz.pinned (.plain (OpenSpec.ofChange deskNilSpec)) deskNilCard

/-- THE TIED CARD OF 'cloisonnelaw23.WatchNil'. -/
def watchNilCard : Claim7 := { stood := { row := watchNilRow, standIns := [], harness := (true, "dadff016247dcf8b73e9c5ad693fa5d4eb58b883db22ebc14c68982d8c2e6d01"), looks := true }, kinds := [], alts := [], laidByText := true, laidKinds := [.data, .pinned], laidTests := true, laidLooks := .later }
def WatchNilCardSaid : Prop := Claim7.holds Tryz.pinned (.plain (OpenSpec.ofChange watchNilSpec)) watchNilCard

/-- THE SECOND FORM's CARD OF 'cloisonnelaw24.CutNil'. -/
def cutNilUptoCard : Claim7 := { stood := { row := cutNilUptoRow, standIns := [], harness := (true, "dadff016247dcf8b73e9c5ad693fa5d4eb58b883db22ebc14c68982d8c2e6d01"), looks := true }, kinds := [], alts := [], laidByText := true, laidKinds := [.data, .pinned], laidTests := true, laidLooks := .later }
def CutNilUptoCardSaid : Prop := Claim7.holds Tryz.pinned (.plain (OpenSpec.upto cutNilSpec)) cutNilUptoCard

/-- THE SECOND FORM's CARD OF 'cloisonnelaw22.DeskNil'. -/
def deskNilUptoCard : Claim7 := { stood := { row := deskNilUptoRow, standIns := [], harness := (true, "dadff016247dcf8b73e9c5ad693fa5d4eb58b883db22ebc14c68982d8c2e6d01"), looks := true }, kinds := [], alts := [], laidByText := true, laidKinds := [.data, .pinned], laidTests := true, laidLooks := .later }
def DeskNilUptoCardSaid : Prop := Claim7.holds Tryz.pinned (.plain (OpenSpec.upto deskNilSpec)) deskNilUptoCard

/-- THE SECOND FORM's CARD OF 'cloisonnelaw23.WatchNil'. -/
def watchNilUptoCard : Claim7 := { stood := { row := watchNilUptoRow, standIns := [], harness := (true, "dadff016247dcf8b73e9c5ad693fa5d4eb58b883db22ebc14c68982d8c2e6d01"), looks := true }, kinds := [], alts := [], laidByText := true, laidKinds := [.data, .pinned], laidTests := true, laidLooks := .later }
def WatchNilUptoCardSaid : Prop := Claim7.holds Tryz.pinned (.plain (OpenSpec.upto watchNilSpec)) watchNilUptoCard
end Rows
end Go.Proofs.YtkgaejjkmkfobaaGreatDoor
