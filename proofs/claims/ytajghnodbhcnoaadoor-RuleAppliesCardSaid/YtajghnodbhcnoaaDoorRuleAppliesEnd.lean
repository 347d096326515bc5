/- Acts on a record: the program does what the document says: record, presence and answer are the same. Conditions: none beyond the row's own. -/
import Derived.Test.YtajghnodbhcnoaaDoorRuleAppliesC7
namespace Go.Proofs.YtajghnodbhcnoaaDoor
theorem ruleApplies_holds : Rows.RuleAppliesCardSaid := Go.CL.RuleApplies_card
end Go.Proofs.YtajghnodbhcnoaaDoor
