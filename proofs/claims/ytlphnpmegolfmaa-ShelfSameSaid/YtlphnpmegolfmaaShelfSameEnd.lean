/- ShelfSame: two shelves are the same, if they have the same records at the same keys, in whatever order they came, and whatever was cut. Conditions: none beyond the row's own. -/
import Derived.Test.YtlphnpmegolfmaaShelfSameC7
namespace Go.Proofs.Ytlphnpmegolfmaa
theorem shelfSame_holds : Rows.ShelfSameSaid := Go.CL.ShelfSame_holds
end Go.Proofs.Ytlphnpmegolfmaa
