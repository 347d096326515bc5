/-
  DERIVED. GIVEN WITH THE SEED: THE CARDS: each row of YtajhikgoibmpcaaGreatDoorRows.lean that lists a variable, with what it lists TIED to the program's text (the seventh form; the later family's looks); each row that meets fmt, with fmt's text TOLD by the authors' own Lean function (tested against real Go, not proved from fmt's source: count such statements apart). THE CARD IS WHAT COUNTS. Prove the row's statement (the work); the ties are given (YtajhikgoibmpcaaGreatDoorTie.lean); close each card by the builder's one call (the guide's Derived/Test/ToyasCard.lean, 'card_holds'). Laid BY PROGRAM, IN A SANDBOX (cutbox-door.mjs). By AI agents, Wed Nov 11 2026. No macro, syntax, notation, axiom, sorry.
-/
import Derived.Test.YtajhikgoibmpcaaGreatDoorRows
import GoSem.ClaimSeven
namespace Go.Proofs.YtajhikgoibmpcaaGreatDoor
namespace Rows

/-- THE TIED CARD OF 'moietytop.WholeLog'. -/
def wholeLogCard : Claim7 := { stood := { row := wholeLogRow, standIns := [], harness := (true, "9d4d0ae94c3849315b37836a36c3037acbe13676671a5c8aaeb9b8eafc43fcab"), looks := true }, kinds := [], alts := [], laidByText := true, laidKinds := [.data], laidTests := true, laidLooks := .later }
def WholeLogCardSaid : Prop := Claim7.holds Tryz.pinned (.plain (OpenSpec.ofChange wholeLogSpec)) wholeLogCard

/-- THE SECOND FORM's CARD OF 'moietytop.WholeLog'. -/
def wholeLogUptoCard : Claim7 := { stood := { row := wholeLogUptoRow, standIns := [], harness := (true, "9d4d0ae94c3849315b37836a36c3037acbe13676671a5c8aaeb9b8eafc43fcab"), looks := true }, kinds := [], alts := [], laidByText := true, laidKinds := [.data], laidTests := true, laidLooks := .later }
def WholeLogUptoCardSaid : Prop := Claim7.holds Tryz.pinned (.plain (OpenSpec.upto wholeLogSpec)) wholeLogUptoCard
end Rows
end Go.Proofs.YtajhikgoibmpcaaGreatDoor
