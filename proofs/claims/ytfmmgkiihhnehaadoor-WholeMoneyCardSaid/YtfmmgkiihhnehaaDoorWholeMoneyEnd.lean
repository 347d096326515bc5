/- WholeMoney: whatever goes from purse to purse, and whatever is refused, all purses together have what they had. Conditions: none beyond the row's own. -/
import Derived.Test.YtfmmgkiihhnehaaDoorWholeMoneyC7
namespace Go.Proofs.YtfmmgkiihhnehaaDoor
theorem wholeMoney_holds : Rows.WholeMoneyCardSaid := Go.CL.WholeMoney_card
end Go.Proofs.YtfmmgkiihhnehaaDoor
