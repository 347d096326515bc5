/- ShelfHigh: however records come and go, they do not stand high above each other. Conditions: none beyond the row's own. -/
import Derived.Test.YtlphnpmegolfmaaShelfHighC4
namespace Go.Proofs.Ytlphnpmegolfmaa
theorem shelfHigh_holds : Rows.ShelfHighSaid := Go.CL.ShelfHigh_holds
end Go.Proofs.Ytlphnpmegolfmaa
