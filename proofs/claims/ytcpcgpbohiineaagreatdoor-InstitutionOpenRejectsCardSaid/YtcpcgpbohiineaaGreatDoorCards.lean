/-
  DERIVED. GIVEN WITH THE SEED: THE CARDS: each row of YtcpcgpbohiineaaGreatDoorRows.lean that lists a variable, with what it lists TIED to the program's text (the seventh form; the later family's looks); each row that meets fmt, with fmt's text TOLD by the authors' own Lean function (tested against real Go, not proved from fmt's source: count such statements apart). THE CARD IS WHAT COUNTS. Prove the row's statement (the work); the ties are given (YtcpcgpbohiineaaGreatDoorTie.lean); close each card by the builder's one call (the guide's Derived/Test/ToyasCard.lean, 'card_holds'). Laid BY PROGRAM, IN A SANDBOX (cutbox-door.mjs). By AI agents, Wed Nov 11 2026. No macro, syntax, notation, axiom, sorry.
-/
import Derived.Test.YtcpcgpbohiineaaGreatDoorRows
import GoSem.ClaimSeven
namespace Go.Proofs.YtcpcgpbohiineaaGreatDoor
namespace Rows

/-- THE TIED CARD OF 'pensionlaw35.InstitutionOpenRejects'. -/
def institutionOpenRejectsCard : Claim7 := { stood := { row := institutionOpenRejectsRow, standIns := [], harness := (true, "558951b87173a70336c623a331434ca59ac577d2174804a92e0d47a9faf8548f"), looks := true }, kinds := [], alts := [], laidByText := true, laidKinds := [.data, .data, .data], laidTests := true, laidLooks := .later }
def InstitutionOpenRejectsCardSaid : Prop := Claim7.holds Tryz.pinned (.plain (OpenSpec.ofChange institutionOpenRejectsSpec)) institutionOpenRejectsCard

/-- THE SECOND FORM's CARD OF 'pensionlaw35.InstitutionOpenRejects'. -/
def institutionOpenRejectsUptoCard : Claim7 := { stood := { row := institutionOpenRejectsUptoRow, standIns := [], harness := (true, "558951b87173a70336c623a331434ca59ac577d2174804a92e0d47a9faf8548f"), looks := true }, kinds := [], alts := [], laidByText := true, laidKinds := [.data, .data, .data], laidTests := true, laidLooks := .later }
def InstitutionOpenRejectsUptoCardSaid : Prop := Claim7.holds Tryz.pinned (.plain (OpenSpec.upto institutionOpenRejectsSpec)) institutionOpenRejectsUptoCard
end Rows
end Go.Proofs.YtcpcgpbohiineaaGreatDoor
