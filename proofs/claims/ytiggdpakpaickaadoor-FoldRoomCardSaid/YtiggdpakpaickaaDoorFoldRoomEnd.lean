/- FoldRoom: there are never more records than there is room for, and each may be. Conditions: none beyond the row's own. -/
import Derived.Test.YtiggdpakpaickaaDoorFoldRoomC7
namespace Go.Proofs.YtiggdpakpaickaaDoor
theorem foldRoom_holds : Rows.FoldRoomCardSaid := Go.CL.FoldRoom_card
end Go.Proofs.YtiggdpakpaickaaDoor
