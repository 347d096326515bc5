/-
  DERIVED. GIVEN WITH THE SEED: THE CARDS: each row of YtiggdpakpaickaaGreatDoorRows.lean that lists a variable, with what it lists TIED to the program's text (the seventh form; the later family's looks); each row that meets fmt, with fmt's text TOLD by the authors' own Lean function (tested against real Go, not proved from fmt's source: count such statements apart). THE CARD IS WHAT COUNTS. Prove the row's statement (the work); the ties are given (YtiggdpakpaickaaGreatDoorTie.lean); close each card by the builder's one call (the guide's Derived/Test/ToyasCard.lean, 'card_holds'). Laid BY PROGRAM, IN A SANDBOX (cutbox-door.mjs). By AI agents, Wed Nov 11 2026. No macro, syntax, notation, axiom, sorry.
-/
import Derived.Test.YtiggdpakpaickaaGreatDoorRows
import GoSem.ClaimSeven
namespace Go.Proofs.YtiggdpakpaickaaGreatDoor
namespace Rows

/-- THE TIED CARD OF 'moietylaw10.FoldRuns'. -/
def foldRunsCard : Claim7 := { stood := { row := foldRunsRow, standIns := [], harness := (true, "e7e36f5ae84a6e7b1c4c0dcbde582f8ca352bc73d43fbf27528de71db528e4f8"), looks := true }, kinds := [], alts := [], laidByText := true, laidKinds := [.data], laidTests := true, laidLooks := .later }
def FoldRunsCardSaid : Prop := Claim7.holds Tryz.pinned (.plain (OpenSpec.ofChange foldRunsSpec)) foldRunsCard

/-- THE TIED CARD OF 'moietylaw10.FoldOrders'. -/
def foldOrdersCard : Claim7 := { stood := { row := foldOrdersRow, standIns := [], harness := (true, "e7e36f5ae84a6e7b1c4c0dcbde582f8ca352bc73d43fbf27528de71db528e4f8"), looks := true }, kinds := [], alts := [], laidByText := true, laidKinds := [.data], laidTests := true, laidLooks := .later }
def FoldOrdersCardSaid : Prop := Claim7.holds Tryz.pinned (.plain (OpenSpec.ofChange foldOrdersSpec)) foldOrdersCard

/-- THE TIED CARD OF 'moietylaw10.FoldPlaces'. -/
def foldPlacesCard : Claim7 := { stood := { row := foldPlacesRow, standIns := [], harness := (true, "e7e36f5ae84a6e7b1c4c0dcbde582f8ca352bc73d43fbf27528de71db528e4f8"), looks := true }, kinds := [], alts := [], laidByText := true, laidKinds := [.data], laidTests := true, laidLooks := .later }
def FoldPlacesCardSaid : Prop := Claim7.holds Tryz.pinned (.plain (OpenSpec.ofChange foldPlacesSpec)) foldPlacesCard

/-- THE SECOND FORM's CARD OF 'moietylaw10.FoldRuns'. -/
def foldRunsUptoCard : Claim7 := { stood := { row := foldRunsUptoRow, standIns := [], harness := (true, "e7e36f5ae84a6e7b1c4c0dcbde582f8ca352bc73d43fbf27528de71db528e4f8"), looks := true }, kinds := [], alts := [], laidByText := true, laidKinds := [.data], laidTests := true, laidLooks := .later }
def FoldRunsUptoCardSaid : Prop := Claim7.holds Tryz.pinned (.plain (OpenSpec.upto foldRunsSpec)) foldRunsUptoCard

/-- THE SECOND FORM's CARD OF 'moietylaw10.FoldOrders'. -/
def foldOrdersUptoCard : Claim7 := { stood := { row := foldOrdersUptoRow, standIns := [], harness := (true, "e7e36f5ae84a6e7b1c4c0dcbde582f8ca352bc73d43fbf27528de71db528e4f8"), looks := true }, kinds := [], alts := [], laidByText := true, laidKinds := [.data], laidTests := true, laidLooks := .later }
def FoldOrdersUptoCardSaid : Prop := Claim7.holds Tryz.pinned (.plain (OpenSpec.upto foldOrdersSpec)) foldOrdersUptoCard

/-- THE SECOND FORM's CARD OF 'moietylaw10.FoldPlaces'. -/
def foldPlacesUptoCard : Claim7 := { stood := { row := foldPlacesUptoRow, standIns := [], harness := (true, "e7e36f5ae84a6e7b1c4c0dcbde582f8ca352bc73d43fbf27528de71db528e4f8"), looks := true }, kinds := [], alts := [], laidByText := true, laidKinds := [.data], laidTests := true, laidLooks := .later }
def FoldPlacesUptoCardSaid : Prop := Claim7.holds Tryz.pinned (.plain (OpenSpec.upto foldPlacesSpec)) foldPlacesUptoCard
end Rows
end Go.Proofs.YtiggdpakpaickaaGreatDoor
