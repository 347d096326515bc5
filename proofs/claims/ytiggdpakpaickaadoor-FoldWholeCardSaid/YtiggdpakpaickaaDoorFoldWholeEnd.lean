/- FoldWhole: of a deal that is refused nothing was done; of another one all acts, one by one, were; a row of deals is one behind the other. Conditions: none beyond the row's own. -/
import Derived.Test.YtiggdpakpaickaaDoorFoldWholeC7
namespace Go.Proofs.YtiggdpakpaickaaDoor
theorem foldWhole_holds : Rows.FoldWholeCardSaid := Go.CL.FoldWhole_card
end Go.Proofs.YtiggdpakpaickaaDoor
