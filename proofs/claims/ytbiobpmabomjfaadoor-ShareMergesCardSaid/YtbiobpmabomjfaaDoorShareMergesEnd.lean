/- any act upon any slice, and any slices merged, are the document's Conditions: none beyond the row's own. -/
import Derived.Test.YtbiobpmabomjfaaDoorShareMergesC7
namespace Go.Proofs.YtbiobpmabomjfaaDoor
theorem shareMerges_holds : Rows.ShareMergesCardSaid := Go.CL.ShareMerges_card
end Go.Proofs.YtbiobpmabomjfaaDoor
