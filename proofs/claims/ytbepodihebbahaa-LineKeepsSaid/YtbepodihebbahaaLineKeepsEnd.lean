/- IN ORDER: in whatever order deals come to be done, two that meet, but for the keys that are split, are done in the order in which they stand Conditions: none beyond the row's own. -/
import Derived.Test.YtbepodihebbahaaLineKeepsC3
namespace Go.Proofs.Ytbepodihebbahaa
theorem lineKeeps_holds : Rows.LineKeepsSaid := Go.CL.LineKeeps_holds
end Go.Proofs.Ytbepodihebbahaa
