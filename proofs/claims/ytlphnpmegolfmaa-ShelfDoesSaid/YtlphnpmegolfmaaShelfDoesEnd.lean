/- ShelfDoes: whatever is set and cut, all that is there is the document's, behind each step: for every input the law returns true. Conditions: none beyond the row's own. -/
import Derived.Test.YtlphnpmegolfmaaShelfDoesC7
namespace Go.Proofs.Ytlphnpmegolfmaa
theorem shelfDoes_holds : Rows.ShelfDoesSaid := Go.CL.ShelfDoes_holds
end Go.Proofs.Ytlphnpmegolfmaa
