/- Deals that are cut into lots, written as bytes, read of these and done lot by lot, leave what they leave one behind the other, and give the same results. Conditions: none beyond the row's own. -/
import Derived.Test.YtblhcbpleiohaaaGreatDoorWholeLotsC8
namespace Go.Proofs.YtblhcbpleiohaaaGreatDoor
theorem wholeLots_holds : Rows.WholeLotsCardSaid := Go.CL.WholeLots_card
end Go.Proofs.YtblhcbpleiohaaaGreatDoor
