/- APART: of those that may be done at one time no two meet, but for the keys that are split Conditions: none beyond the row's own. -/
import Derived.Test.YtbepodihebbahaaLineApartC3
namespace Go.Proofs.Ytbepodihebbahaa
theorem lineApart_holds : Rows.LineApartSaid := Go.CL.LineApart_holds
end Go.Proofs.Ytbepodihebbahaa
