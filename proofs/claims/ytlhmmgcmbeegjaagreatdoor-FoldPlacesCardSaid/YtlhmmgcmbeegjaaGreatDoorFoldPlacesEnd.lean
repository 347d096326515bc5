/- two deals that do not conflict change places, and all is the same Conditions: none beyond the row's own. -/
import Derived.Test.YtlhmmgcmbeegjaaGreatDoorFoldPlacesC8
namespace Go.Proofs.YtlhmmgcmbeegjaaGreatDoor
theorem foldPlaces_holds : Rows.FoldPlacesCardSaid := Go.CL.FoldPlaces_card
end Go.Proofs.YtlhmmgcmbeegjaaGreatDoor
