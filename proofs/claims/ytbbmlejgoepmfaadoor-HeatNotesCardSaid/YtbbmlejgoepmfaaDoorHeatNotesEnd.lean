/- whatever lots come, all marks are the document's Conditions: none beyond the row's own. -/
import Derived.Test.YtbbmlejgoepmfaaDoorHeatNotesC3
namespace Go.Proofs.YtbbmlejgoepmfaaDoor
theorem heatNotes_holds : Rows.HeatNotesCardSaid := Go.CL.HeatNotes_card
end Go.Proofs.YtbbmlejgoepmfaaDoor
