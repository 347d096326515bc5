/- ShelfOrders: keys are in order: which are from one on, and how many are below one: for every input the law returns true. Conditions: none beyond the row's own. -/
import Derived.Test.YtlphnpmegolfmaaShelfOrdersC7
namespace Go.Proofs.Ytlphnpmegolfmaa
theorem shelfOrders_holds : Rows.ShelfOrdersSaid := Go.CL.ShelfOrders_holds
end Go.Proofs.Ytlphnpmegolfmaa
