/-
  DERIVED. GIVEN WITH THE SEED: THE CARDS: each row of YtajghnodbhcnoaaDoorRows.lean that lists a variable, with what it lists TIED to the program's text (the seventh form; the later family's looks); each row that meets fmt, with fmt's text TOLD by the authors' own Lean function (tested against real Go, not proved from fmt's source: count such statements apart). THE CARD IS WHAT COUNTS. Prove the row's statement (the work); the ties are given (YtajghnodbhcnoaaDoorTie.lean); close each card by the builder's one call (the guide's Derived/Test/ToyasCard.lean, 'card_holds'). Laid BY PROGRAM, IN A SANDBOX (cutbox-door.mjs). By AI agents, Wed Nov 11 2026. No macro, syntax, notation, axiom, sorry.
-/
import Derived.Test.YtajghnodbhcnoaaDoorRows
import GoSem.ClaimSeven
namespace Go.Proofs.YtajghnodbhcnoaaDoor
namespace Rows

/-- THE TIED CARD OF 'moietylaw05.RuleApplies'. -/
def ruleAppliesCard : Claim7 := { stood := { row := ruleAppliesRow, standIns := [], harness := (true, "d53d6a7d9198ad883dc428b1854140353358626e00ef43ddb68ca71f2a693fba"), looks := false }, kinds := [], alts := [], laidByText := true, laidKinds := [.data], laidTests := true, laidLooks := .later }
def RuleAppliesCardSaid : Prop := Claim7.holds Tryd.pinned (.plain (OpenSpec.ofChange ruleAppliesSpec)) ruleAppliesCard

/-- THE TIED CARD OF 'moietylaw05.RuleRows'. -/
def ruleRowsCard : Claim7 := { stood := { row := ruleRowsRow, standIns := [], harness := (true, "d53d6a7d9198ad883dc428b1854140353358626e00ef43ddb68ca71f2a693fba"), looks := false }, kinds := [], alts := [], laidByText := true, laidKinds := [.data], laidTests := true, laidLooks := .later }
def RuleRowsCardSaid : Prop := Claim7.holds Tryd.pinned (.plain (OpenSpec.ofChange ruleRowsSpec)) ruleRowsCard

/-- THE TIED CARD OF 'moietylaw05.RuleTwice'. -/
def ruleTwiceCard : Claim7 := { stood := { row := ruleTwiceRow, standIns := [], harness := (true, "d53d6a7d9198ad883dc428b1854140353358626e00ef43ddb68ca71f2a693fba"), looks := false }, kinds := [], alts := [], laidByText := true, laidKinds := [.data], laidTests := true, laidLooks := .later }
def RuleTwiceCardSaid : Prop := Claim7.holds Tryd.pinned (.plain (OpenSpec.ofChange ruleTwiceSpec)) ruleTwiceCard

/-- THE TIED CARD OF 'moietylaw05.RuleBack'. -/
def ruleBackCard : Claim7 := { stood := { row := ruleBackRow, standIns := [], harness := (true, "d53d6a7d9198ad883dc428b1854140353358626e00ef43ddb68ca71f2a693fba"), looks := false }, kinds := [], alts := [], laidByText := true, laidKinds := [.data], laidTests := true, laidLooks := .later }
def RuleBackCardSaid : Prop := Claim7.holds Tryd.pinned (.plain (OpenSpec.ofChange ruleBackSpec)) ruleBackCard

/-- THE TIED CARD OF 'moietylaw05.RuleOwn'. -/
def ruleOwnCard : Claim7 := { stood := { row := ruleOwnRow, standIns := [], harness := (true, "d53d6a7d9198ad883dc428b1854140353358626e00ef43ddb68ca71f2a693fba"), looks := false }, kinds := [], alts := [], laidByText := true, laidKinds := [.data], laidTests := true, laidLooks := .later }
def RuleOwnCardSaid : Prop := Claim7.holds Tryd.pinned (.plain (OpenSpec.ofChange ruleOwnSpec)) ruleOwnCard

/-- THE TIED CARD OF 'moietylaw05.RuleKeeps'. -/
def ruleKeepsCard : Claim7 := { stood := { row := ruleKeepsRow, standIns := [], harness := (true, "d53d6a7d9198ad883dc428b1854140353358626e00ef43ddb68ca71f2a693fba"), looks := false }, kinds := [], alts := [], laidByText := true, laidKinds := [.data], laidTests := true, laidLooks := .later }
def RuleKeepsCardSaid : Prop := Claim7.holds Tryd.pinned (.plain (OpenSpec.ofChange ruleKeepsSpec)) ruleKeepsCard

/-- THE SECOND FORM's CARD OF 'moietylaw05.RuleApplies'. -/
def ruleAppliesUptoCard : Claim7 := { stood := { row := ruleAppliesUptoRow, standIns := [], harness := (true, "d53d6a7d9198ad883dc428b1854140353358626e00ef43ddb68ca71f2a693fba"), looks := false }, kinds := [], alts := [], laidByText := true, laidKinds := [.data], laidTests := true, laidLooks := .later }
def RuleAppliesUptoCardSaid : Prop := Claim7.holds Tryd.pinned (.plain (OpenSpec.upto ruleAppliesSpec)) ruleAppliesUptoCard

/-- THE SECOND FORM's CARD OF 'moietylaw05.RuleRows'. -/
def ruleRowsUptoCard : Claim7 := { stood := { row := ruleRowsUptoRow, standIns := [], harness := (true, "d53d6a7d9198ad883dc428b1854140353358626e00ef43ddb68ca71f2a693fba"), looks := false }, kinds := [], alts := [], laidByText := true, laidKinds := [.data], laidTests := true, laidLooks := .later }
def RuleRowsUptoCardSaid : Prop := Claim7.holds Tryd.pinned (.plain (OpenSpec.upto ruleRowsSpec)) ruleRowsUptoCard

/-- THE SECOND FORM's CARD OF 'moietylaw05.RuleTwice'. -/
def ruleTwiceUptoCard : Claim7 := { stood := { row := ruleTwiceUptoRow, standIns := [], harness := (true, "d53d6a7d9198ad883dc428b1854140353358626e00ef43ddb68ca71f2a693fba"), looks := false }, kinds := [], alts := [], laidByText := true, laidKinds := [.data], laidTests := true, laidLooks := .later }
def RuleTwiceUptoCardSaid : Prop := Claim7.holds Tryd.pinned (.plain (OpenSpec.upto ruleTwiceSpec)) ruleTwiceUptoCard

/-- THE SECOND FORM's CARD OF 'moietylaw05.RuleBack'. -/
def ruleBackUptoCard : Claim7 := { stood := { row := ruleBackUptoRow, standIns := [], harness := (true, "d53d6a7d9198ad883dc428b1854140353358626e00ef43ddb68ca71f2a693fba"), looks := false }, kinds := [], alts := [], laidByText := true, laidKinds := [.data], laidTests := true, laidLooks := .later }
def RuleBackUptoCardSaid : Prop := Claim7.holds Tryd.pinned (.plain (OpenSpec.upto ruleBackSpec)) ruleBackUptoCard

/-- THE SECOND FORM's CARD OF 'moietylaw05.RuleOwn'. -/
def ruleOwnUptoCard : Claim7 := { stood := { row := ruleOwnUptoRow, standIns := [], harness := (true, "d53d6a7d9198ad883dc428b1854140353358626e00ef43ddb68ca71f2a693fba"), looks := false }, kinds := [], alts := [], laidByText := true, laidKinds := [.data], laidTests := true, laidLooks := .later }
def RuleOwnUptoCardSaid : Prop := Claim7.holds Tryd.pinned (.plain (OpenSpec.upto ruleOwnSpec)) ruleOwnUptoCard

/-- THE SECOND FORM's CARD OF 'moietylaw05.RuleKeeps'. -/
def ruleKeepsUptoCard : Claim7 := { stood := { row := ruleKeepsUptoRow, standIns := [], harness := (true, "d53d6a7d9198ad883dc428b1854140353358626e00ef43ddb68ca71f2a693fba"), looks := false }, kinds := [], alts := [], laidByText := true, laidKinds := [.data], laidTests := true, laidLooks := .later }
def RuleKeepsUptoCardSaid : Prop := Claim7.holds Tryd.pinned (.plain (OpenSpec.upto ruleKeepsSpec)) ruleKeepsUptoCard
end Rows
end Go.Proofs.YtajghnodbhcnoaaDoor
