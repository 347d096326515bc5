/- ESCROW: acts that were drawn, done upon slices, leave together what they leave one behind the other, at every time, in whatever order; and there none is refused Conditions: none beyond the row's own. -/
import Derived.Test.YtbiobpmabomjfaaDoorShareEscrowC7
namespace Go.Proofs.YtbiobpmabomjfaaDoor
theorem shareEscrow_holds : Rows.ShareEscrowCardSaid := Go.CL.ShareEscrow_card
end Go.Proofs.YtbiobpmabomjfaaDoor
