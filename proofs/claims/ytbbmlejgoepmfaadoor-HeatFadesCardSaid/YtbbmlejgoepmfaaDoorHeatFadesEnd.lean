/- what was ahead counts ever less: behind enough lots without deals there is no mark; a clone keeps its own Conditions: none beyond the row's own. -/
import Derived.Test.YtbbmlejgoepmfaaDoorHeatFadesC3
namespace Go.Proofs.YtbbmlejgoepmfaaDoor
theorem heatFades_holds : Rows.HeatFadesCardSaid := Go.CL.HeatFades_card
end Go.Proofs.YtbbmlejgoepmfaaDoor
