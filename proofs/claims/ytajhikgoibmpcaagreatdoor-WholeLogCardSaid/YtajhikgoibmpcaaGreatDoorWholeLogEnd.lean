/- The law of the whole log. Conditions: none beyond the row's own. -/
import Derived.Test.YtajhikgoibmpcaaGreatDoorWholeLogC6
namespace Go.Proofs.YtajhikgoibmpcaaGreatDoor
theorem wholeLog_holds : Rows.WholeLogCardSaid := Go.CL.WholeLog_card
end Go.Proofs.YtajhikgoibmpcaaGreatDoor
