/-
  DERIVED. GIVEN WITH THE SEED: THE CARDS: each row of YtblhcbpleiohaaaGreatDoorRows.lean that lists a variable, with what it lists TIED to the program's text (the seventh form; the later family's looks); each row that meets fmt, with fmt's text TOLD by the authors' own Lean function (tested against real Go, not proved from fmt's source: count such statements apart). THE CARD IS WHAT COUNTS. Prove the row's statement (the work); the ties are given (YtblhcbpleiohaaaGreatDoorTie.lean); close each card by the builder's one call (the guide's Derived/Test/ToyasCard.lean, 'card_holds'). Laid BY PROGRAM, IN A SANDBOX (cutbox-door.mjs). By AI agents, Wed Nov 11 2026. No macro, syntax, notation, axiom, sorry.
-/
import Derived.Test.YtblhcbpleiohaaaGreatDoorRows
import GoSem.ClaimSeven
namespace Go.Proofs.YtblhcbpleiohaaaGreatDoor
namespace Rows

/-- THE TIED CARD OF 'moietytop.WholeLots'. -/
def wholeLotsCard : Claim7 := { stood := { row := wholeLotsRow, standIns := [], harness := (true, "f30dbc4d923b01fbf9a87c362bddbd2c56186ddf642bb9eb44814d45f1547a81"), looks := true }, kinds := [], alts := [], laidByText := true, laidKinds := [.data], laidTests := true, laidLooks := .later }
def WholeLotsCardSaid : Prop := Claim7.holds Tryz.pinned (.plain (OpenSpec.ofChange wholeLotsSpec)) wholeLotsCard

/-- THE SECOND FORM's CARD OF 'moietytop.WholeLots'. -/
def wholeLotsUptoCard : Claim7 := { stood := { row := wholeLotsUptoRow, standIns := [], harness := (true, "f30dbc4d923b01fbf9a87c362bddbd2c56186ddf642bb9eb44814d45f1547a81"), looks := true }, kinds := [], alts := [], laidByText := true, laidKinds := [.data], laidTests := true, laidLooks := .later }
def WholeLotsUptoCardSaid : Prop := Claim7.holds Tryz.pinned (.plain (OpenSpec.upto wholeLotsSpec)) wholeLotsUptoCard
end Rows
end Go.Proofs.YtblhcbpleiohaaaGreatDoor
