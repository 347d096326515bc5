/- what is upon keys that are split is answered that it is done, and handed out; all else is as if that weren't there Conditions: none beyond the row's own. -/
import Derived.Test.YtlanlccmokaajaaGreatDoorHandSplitC8
namespace Go.Proofs.YtlanlccmokaajaaGreatDoor
theorem handSplit_holds : Rows.HandSplitCardSaid := Go.CL.HandSplit_card
end Go.Proofs.YtlanlccmokaajaaGreatDoor
