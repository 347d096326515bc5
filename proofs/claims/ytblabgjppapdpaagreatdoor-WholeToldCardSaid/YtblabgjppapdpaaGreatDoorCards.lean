/-
  DERIVED. GIVEN WITH THE SEED: THE CARDS: each row of YtblabgjppapdpaaGreatDoorRows.lean that lists a variable, with what it lists TIED to the program's text (the seventh form; the later family's looks); each row that meets fmt, with fmt's text TOLD by the authors' own Lean function (tested against real Go, not proved from fmt's source: count such statements apart). THE CARD IS WHAT COUNTS. Prove the row's statement (the work); the ties are given (YtblabgjppapdpaaGreatDoorTie.lean); close each card by the builder's one call (the guide's Derived/Test/ToyasCard.lean, 'card_holds'). Laid BY PROGRAM, IN A SANDBOX (cutbox-door.mjs). By AI agents, Wed Nov 11 2026. No macro, syntax, notation, axiom, sorry.
-/
import Derived.Test.YtblabgjppapdpaaGreatDoorRows
import GoSem.ClaimSeven
namespace Go.Proofs.YtblabgjppapdpaaGreatDoor
namespace Rows

/-- THE TIED CARD OF 'moietytop.WholeTold'. -/
def wholeToldCard : Claim7 := { stood := { row := wholeToldRow, standIns := [], harness := (true, "9a1e838c36377a229eb526b9611afc3140f6145a2bb861637a095d6f2f31c7fd"), looks := true }, kinds := [], alts := [], laidByText := true, laidKinds := [.data, .data, .data, .data, .sentinel, .sentinel, .data, .pinned], laidTests := true, laidLooks := .later }
def WholeToldCardSaid : Prop := Claim7.holds Tryz.pinned (.plain (OpenSpec.ofChange wholeToldSpec)) wholeToldCard

/-- THE SECOND FORM's CARD OF 'moietytop.WholeTold'. -/
def wholeToldUptoCard : Claim7 := { stood := { row := wholeToldUptoRow, standIns := [], harness := (true, "9a1e838c36377a229eb526b9611afc3140f6145a2bb861637a095d6f2f31c7fd"), looks := true }, kinds := [], alts := [], laidByText := true, laidKinds := [.data, .data, .data, .data, .sentinel, .sentinel, .data, .pinned], laidTests := true, laidLooks := .later }
def WholeToldUptoCardSaid : Prop := Claim7.holds Tryz.pinned (.plain (OpenSpec.upto wholeToldSpec)) wholeToldUptoCard
end Rows
end Go.Proofs.YtblabgjppapdpaaGreatDoor
