/- whom each one waits for, and who is done, in whatever order it is tried, is the document's Conditions: none beyond the row's own. -/
import Derived.Test.YtbepodihebbahaaLineWaitsC3
namespace Go.Proofs.Ytbepodihebbahaa
theorem lineWaits_holds : Rows.LineWaitsSaid := Go.CL.LineWaits_holds
end Go.Proofs.Ytbepodihebbahaa
