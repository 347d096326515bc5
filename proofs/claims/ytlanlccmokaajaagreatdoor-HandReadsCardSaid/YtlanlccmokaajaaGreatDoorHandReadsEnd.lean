/- a deal that only reads lays nothing; one that is refused lays nothing, whatever it did Conditions: none beyond the row's own. -/
import Derived.Test.YtlanlccmokaajaaGreatDoorHandReadsC8
namespace Go.Proofs.YtlanlccmokaajaaGreatDoor
theorem handReads_holds : Rows.HandReadsCardSaid := Go.CL.HandReads_card
end Go.Proofs.YtlanlccmokaajaaGreatDoor
