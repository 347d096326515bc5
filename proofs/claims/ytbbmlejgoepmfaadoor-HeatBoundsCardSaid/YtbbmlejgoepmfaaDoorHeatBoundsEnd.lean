/- behind each lot a key's score is half of what it was, and so many as there were acts upon it that split: never more than twice the most of these that one lot had Conditions: none beyond the row's own. -/
import Derived.Test.YtbbmlejgoepmfaaDoorHeatBoundsC3
namespace Go.Proofs.YtbbmlejgoepmfaaDoor
theorem heatBounds_holds : Rows.HeatBoundsCardSaid := Go.CL.HeatBounds_card
end Go.Proofs.YtbbmlejgoepmfaaDoor
