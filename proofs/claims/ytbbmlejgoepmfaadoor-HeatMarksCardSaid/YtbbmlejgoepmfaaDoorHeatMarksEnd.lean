/- of more keys than can be marked those stay that are hottest Conditions: none beyond the row's own. -/
import Derived.Test.YtbbmlejgoepmfaaDoorHeatMarksC3
namespace Go.Proofs.YtbbmlejgoepmfaaDoor
theorem heatMarks_holds : Rows.HeatMarksCardSaid := Go.CL.HeatMarks_card
end Go.Proofs.YtbbmlejgoepmfaaDoor
