/- Of the kinds that say where a record ends: the same act made twice leaves what it left once. Conditions: none beyond the row's own. -/
import Derived.Test.YtajghnodbhcnoaaDoorRuleTwiceC5
namespace Go.Proofs.YtajghnodbhcnoaaDoor
theorem ruleTwice_holds : Rows.RuleTwiceCardSaid := Go.CL.RuleTwice_card
end Go.Proofs.YtajghnodbhcnoaaDoor
