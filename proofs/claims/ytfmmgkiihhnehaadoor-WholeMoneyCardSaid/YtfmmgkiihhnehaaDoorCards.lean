/-
  DERIVED. GIVEN WITH THE SEED: THE CARDS: each row of YtfmmgkiihhnehaaDoorRows.lean that lists a variable, with what it lists TIED to the program's text (the seventh form; the later family's looks); each row that meets fmt, with fmt's text TOLD by the authors' own Lean function (tested against real Go, not proved from fmt's source: count such statements apart). THE CARD IS WHAT COUNTS. Prove the row's statement (the work); the ties are given (YtfmmgkiihhnehaaDoorTie.lean); close each card by the builder's one call (the guide's Derived/Test/ToyasCard.lean, 'card_holds'). Laid BY PROGRAM, IN A SANDBOX (cutbox-door.mjs). By AI agents, Wed Nov 11 2026. No macro, syntax, notation, axiom, sorry.
-/
import Derived.Test.YtfmmgkiihhnehaaDoorRows
import GoSem.ClaimSeven
namespace Go.Proofs.YtfmmgkiihhnehaaDoor
namespace Rows

/-- THE TIED CARD OF 'moietytop.WholeMoney'. -/
def wholeMoneyCard : Claim7 := { stood := { row := wholeMoneyRow, standIns := [], harness := (true, "7d904c1ab9ff0ed3284e966902da9e31d5957f2f7be9895fa53055927edb55f6"), looks := true }, kinds := [], alts := [], laidByText := true, laidKinds := [.data], laidTests := true, laidLooks := .later }
def WholeMoneyCardSaid : Prop := Claim7.holds Tryd.pinned (.plain (OpenSpec.ofChange wholeMoneySpec)) wholeMoneyCard

/-- THE SECOND FORM's CARD OF 'moietytop.WholeMoney'. -/
def wholeMoneyUptoCard : Claim7 := { stood := { row := wholeMoneyUptoRow, standIns := [], harness := (true, "7d904c1ab9ff0ed3284e966902da9e31d5957f2f7be9895fa53055927edb55f6"), looks := true }, kinds := [], alts := [], laidByText := true, laidKinds := [.data], laidTests := true, laidLooks := .later }
def WholeMoneyUptoCardSaid : Prop := Claim7.holds Tryd.pinned (.plain (OpenSpec.upto wholeMoneySpec)) wholeMoneyUptoCard
end Rows
end Go.Proofs.YtfmmgkiihhnehaaDoor
