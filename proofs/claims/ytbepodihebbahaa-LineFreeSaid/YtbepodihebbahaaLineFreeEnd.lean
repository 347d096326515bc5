/- FREE: the first one that is left may always be done; so all come to be done Conditions: none beyond the row's own. -/
import Derived.Test.YtbepodihebbahaaLineFreeC3
namespace Go.Proofs.Ytbepodihebbahaa
theorem lineFree_holds : Rows.LineFreeSaid := Go.CL.LineFree_holds
end Go.Proofs.Ytbepodihebbahaa
