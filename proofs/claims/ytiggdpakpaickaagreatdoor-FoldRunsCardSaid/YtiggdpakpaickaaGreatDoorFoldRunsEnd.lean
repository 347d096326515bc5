/- FoldRuns: whatever deals are done upon whatever shelf, one behind the other, what is there behind them and all results are the document's. Conditions: none beyond the row's own. -/
import Derived.Test.YtiggdpakpaickaaGreatDoorFoldRunsC8
namespace Go.Proofs.YtiggdpakpaickaaGreatDoor
theorem foldRuns_holds : Rows.FoldRunsCardSaid := Go.CL.FoldRuns_card
end Go.Proofs.YtiggdpakpaickaaGreatDoor
