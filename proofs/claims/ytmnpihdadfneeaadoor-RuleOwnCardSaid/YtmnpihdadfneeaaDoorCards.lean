/-
  DERIVED. GIVEN WITH THE SEED: THE CARDS: each row of YtmnpihdadfneeaaDoorRows.lean that lists a variable, with what it lists TIED to the program's text (the seventh form; the later family's looks); each row that meets fmt, with fmt's text TOLD by the authors' own Lean function (tested against real Go, not proved from fmt's source: count such statements apart). THE CARD IS WHAT COUNTS. Prove the row's statement (the work); the ties are given (YtmnpihdadfneeaaDoorTie.lean); close each card by the builder's one call (the guide's Derived/Test/ToyasCard.lean, 'card_holds'). Laid BY PROGRAM, IN A SANDBOX (cutbox-door.mjs). By AI agents, Wed Nov 11 2026. No macro, syntax, notation, axiom, sorry.
-/
import Derived.Test.YtmnpihdadfneeaaDoorRows
import GoSem.ClaimSeven
namespace Go.Proofs.YtmnpihdadfneeaaDoor
namespace Rows

/-- THE TIED CARD OF 'moietylaw05.RuleOwn'. -/
def ruleOwnCard : Claim7 := { stood := { row := ruleOwnRow, standIns := [], harness := (true, "2369975240edf94f4210cbdab82fe171fdd349060dbaefeec9341a4c26ddfc54"), looks := false }, kinds := [], alts := [], laidByText := true, laidKinds := [.data], laidTests := true, laidLooks := .later }
def RuleOwnCardSaid : Prop := Claim7.holds Tryd.pinned (.plain (OpenSpec.ofChange ruleOwnSpec)) ruleOwnCard

/-- THE SECOND FORM's CARD OF 'moietylaw05.RuleOwn'. -/
def ruleOwnUptoCard : Claim7 := { stood := { row := ruleOwnUptoRow, standIns := [], harness := (true, "2369975240edf94f4210cbdab82fe171fdd349060dbaefeec9341a4c26ddfc54"), looks := false }, kinds := [], alts := [], laidByText := true, laidKinds := [.data], laidTests := true, laidLooks := .later }
def RuleOwnUptoCardSaid : Prop := Claim7.holds Tryd.pinned (.plain (OpenSpec.upto ruleOwnSpec)) ruleOwnUptoCard
end Rows
end Go.Proofs.YtmnpihdadfneeaaDoor
