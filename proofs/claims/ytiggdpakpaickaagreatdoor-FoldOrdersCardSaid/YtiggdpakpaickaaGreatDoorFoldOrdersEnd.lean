/- FoldOrders: deals in some order are what they are one behind the other in that order. Conditions: none beyond the row's own. -/
import Derived.Test.YtiggdpakpaickaaGreatDoorFoldOrdersC8
namespace Go.Proofs.YtiggdpakpaickaaGreatDoor
theorem foldOrders_holds : Rows.FoldOrdersCardSaid := Go.CL.FoldOrders_card
end Go.Proofs.YtiggdpakpaickaaGreatDoor
