/- What was added, paid in or paid out and then taken back the same leaves the record as it was. Conditions: none beyond the row's own. -/
import Derived.Test.YtajghnodbhcnoaaDoorRuleBackC6
namespace Go.Proofs.YtajghnodbhcnoaaDoor
theorem ruleBack_holds : Rows.RuleBackCardSaid := Go.CL.RuleBack_card
end Go.Proofs.YtajghnodbhcnoaaDoor
