/- A row of acts: the program and the document give the same record, presence and answers. Conditions: none beyond the row's own. -/
import Derived.Test.YtajghnodbhcnoaaDoorRuleRowsC7
namespace Go.Proofs.YtajghnodbhcnoaaDoor
theorem ruleRows_holds : Rows.RuleRowsCardSaid := Go.CL.RuleRows_card
end Go.Proofs.YtajghnodbhcnoaaDoor
