/- ALONE: a deal that is done act by act, and committed, is what it is at once; until it is over nothing is told, and nothing is laid Conditions: none beyond the row's own. -/
import Derived.Test.YtlanlccmokaajaaGreatDoorHandAloneC8
namespace Go.Proofs.YtlanlccmokaajaaGreatDoor
theorem handAlone_holds : Rows.HandAloneCardSaid := Go.CL.HandAlone_card
end Go.Proofs.YtlanlccmokaajaaGreatDoor
