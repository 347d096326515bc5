/- APART: two deals that don't meet, done in whatever mixture, and committed one behind the other, are both, one behind the other Conditions: none beyond the row's own. -/
import Derived.Test.YtlanlccmokaajaaGreatDoorHandApartC8
namespace Go.Proofs.YtlanlccmokaajaaGreatDoor
theorem handApart_holds : Rows.HandApartCardSaid := Go.CL.HandApart_card
end Go.Proofs.YtlanlccmokaajaaGreatDoor
