/- which acts split which records; the empty slice of any record; with empty slices a record is as it was Conditions: none beyond the row's own. -/
import Derived.Test.YtbiobpmabomjfaaDoorShareSlicesC6
namespace Go.Proofs.YtbiobpmabomjfaaDoor
theorem shareSlices_holds : Rows.ShareSlicesCardSaid := Go.CL.ShareSlices_card
end Go.Proofs.YtbiobpmabomjfaaDoor
