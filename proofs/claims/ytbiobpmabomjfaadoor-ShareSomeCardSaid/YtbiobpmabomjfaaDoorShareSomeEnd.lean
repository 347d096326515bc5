/- whichever of the drawn acts have been done, what is there is a record that may be Conditions: none beyond the row's own. -/
import Derived.Test.YtbiobpmabomjfaaDoorShareSomeC6
namespace Go.Proofs.YtbiobpmabomjfaaDoor
theorem shareSome_holds : Rows.ShareSomeCardSaid := Go.CL.ShareSome_card
end Go.Proofs.YtbiobpmabomjfaaDoor
