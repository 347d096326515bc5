/- Acts keep a record in order: what is there passes its check, what is gone is bare, an error or a reading changes nothing. Conditions: none beyond the row's own. -/
import Derived.Test.YtajghnodbhcnoaaDoorRuleKeepsC6
namespace Go.Proofs.YtajghnodbhcnoaaDoor
theorem ruleKeeps_holds : Rows.RuleKeepsCardSaid := Go.CL.RuleKeeps_card
end Go.Proofs.YtajghnodbhcnoaaDoor
