/- Shelves that were kept stay what they were, whatever was made of them later. Conditions: none beyond the row's own. -/
import Derived.Test.YtlphnpmegolfmaaShelfStaysC6
namespace Go.Proofs.Ytlphnpmegolfmaa
theorem shelfStays_holds : Rows.ShelfStaysSaid := Go.CL.ShelfStays_holds
end Go.Proofs.Ytlphnpmegolfmaa
