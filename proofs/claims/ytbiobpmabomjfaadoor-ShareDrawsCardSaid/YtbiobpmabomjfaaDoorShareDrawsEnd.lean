/- what is drawn, and what is left, is the document's, act by act, or some at a time Conditions: none beyond the row's own. -/
import Derived.Test.YtbiobpmabomjfaaDoorShareDrawsC7
namespace Go.Proofs.YtbiobpmabomjfaaDoor
theorem shareDraws_holds : Rows.ShareDrawsCardSaid := Go.CL.ShareDraws_card
end Go.Proofs.YtbiobpmabomjfaaDoor
