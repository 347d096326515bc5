/- RuleOwn: what is answered has lists of its own: who writes into them changes nothing of what was handed in, for every record and act that the statement lets in (its guards), of the given program. Conditions: none beyond the row's own. -/
import Derived.Test.YtmnpihdadfneeaaDoorRuleOwnC4
namespace Go.Proofs.YtmnpihdadfneeaaDoor
theorem ruleOwn_holds : Rows.RuleOwnCardSaid := Go.CL.RuleOwn_card
end Go.Proofs.YtmnpihdadfneeaaDoor
