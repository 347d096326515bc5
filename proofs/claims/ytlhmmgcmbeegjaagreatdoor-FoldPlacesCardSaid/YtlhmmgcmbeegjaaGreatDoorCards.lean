/-
  DERIVED. GIVEN WITH THE SEED: THE CARDS: each row of YtlhmmgcmbeegjaaGreatDoorRows.lean that lists a variable, with what it lists TIED to the program's text (the seventh form; the later family's looks); each row that meets fmt, with fmt's text TOLD by the authors' own Lean function (tested against real Go, not proved from fmt's source: count such statements apart). THE CARD IS WHAT COUNTS. Prove the row's statement (the work); the ties are given (YtlhmmgcmbeegjaaGreatDoorTie.lean); close each card by the builder's one call (the guide's Derived/Test/ToyasCard.lean, 'card_holds'). Laid BY PROGRAM, IN A SANDBOX (cutbox-door.mjs). By AI agents, Wed Nov 11 2026. No macro, syntax, notation, axiom, sorry.
-/
import Derived.Test.YtlhmmgcmbeegjaaGreatDoorRows
import GoSem.ClaimSeven
namespace Go.Proofs.YtlhmmgcmbeegjaaGreatDoor
namespace Rows

/-- THE TIED CARD OF 'moietylaw10.FoldPlaces'. -/
def foldPlacesCard : Claim7 := { stood := { row := foldPlacesRow, standIns := [], harness := (true, "7b294a6def8d9b2e075bb1099e487ccd78497f867c1f9677a3ab6e515234df3e"), looks := true }, kinds := [], alts := [], laidByText := true, laidKinds := [.data], laidTests := true, laidLooks := .later }
def FoldPlacesCardSaid : Prop := Claim7.holds Tryz.pinned (.plain (OpenSpec.ofChange foldPlacesSpec)) foldPlacesCard

/-- THE SECOND FORM's CARD OF 'moietylaw10.FoldPlaces'. -/
def foldPlacesUptoCard : Claim7 := { stood := { row := foldPlacesUptoRow, standIns := [], harness := (true, "7b294a6def8d9b2e075bb1099e487ccd78497f867c1f9677a3ab6e515234df3e"), looks := true }, kinds := [], alts := [], laidByText := true, laidKinds := [.data], laidTests := true, laidLooks := .later }
def FoldPlacesUptoCardSaid : Prop := Claim7.holds Tryz.pinned (.plain (OpenSpec.upto foldPlacesSpec)) foldPlacesUptoCard
end Rows
end Go.Proofs.YtlhmmgcmbeegjaaGreatDoor
