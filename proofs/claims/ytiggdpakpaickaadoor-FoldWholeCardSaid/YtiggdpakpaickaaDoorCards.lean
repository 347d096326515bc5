/-
  DERIVED. GIVEN WITH THE SEED: THE CARDS: each row of YtiggdpakpaickaaDoorRows.lean that lists a variable, with what it lists TIED to the program's text (the seventh form; the later family's looks); each row that meets fmt, with fmt's text TOLD by the authors' own Lean function (tested against real Go, not proved from fmt's source: count such statements apart). THE CARD IS WHAT COUNTS. Prove the row's statement (the work); the ties are given (YtiggdpakpaickaaDoorTie.lean); close each card by the builder's one call (the guide's Derived/Test/ToyasCard.lean, 'card_holds'). Laid BY PROGRAM, IN A SANDBOX (cutbox-door.mjs). By AI agents, Wed Nov 11 2026. No macro, syntax, notation, axiom, sorry.
-/
import Derived.Test.YtiggdpakpaickaaDoorRows
import GoSem.ClaimSeven
namespace Go.Proofs.YtiggdpakpaickaaDoor
namespace Rows

/-- THE TIED CARD OF 'moietylaw10.FoldRoom'. -/
def foldRoomCard : Claim7 := { stood := { row := foldRoomRow, standIns := [], harness := (true, "97b570d910256998f528dfd312a420b2b6abbc7e287e37cd6fdca6aebb410fdf"), looks := true }, kinds := [], alts := [], laidByText := true, laidKinds := [.data], laidTests := true, laidLooks := .later }
def FoldRoomCardSaid : Prop := Claim7.holds Tryd.pinned (.plain (OpenSpec.ofChange foldRoomSpec)) foldRoomCard

/-- THE TIED CARD OF 'moietylaw10.FoldWhole'. -/
def foldWholeCard : Claim7 := { stood := { row := foldWholeRow, standIns := [], harness := (true, "97b570d910256998f528dfd312a420b2b6abbc7e287e37cd6fdca6aebb410fdf"), looks := true }, kinds := [], alts := [], laidByText := true, laidKinds := [.data], laidTests := true, laidLooks := .later }
def FoldWholeCardSaid : Prop := Claim7.holds Tryd.pinned (.plain (OpenSpec.ofChange foldWholeSpec)) foldWholeCard

/-- THE SECOND FORM's CARD OF 'moietylaw10.FoldRoom'. -/
def foldRoomUptoCard : Claim7 := { stood := { row := foldRoomUptoRow, standIns := [], harness := (true, "97b570d910256998f528dfd312a420b2b6abbc7e287e37cd6fdca6aebb410fdf"), looks := true }, kinds := [], alts := [], laidByText := true, laidKinds := [.data], laidTests := true, laidLooks := .later }
def FoldRoomUptoCardSaid : Prop := Claim7.holds Tryd.pinned (.plain (OpenSpec.upto foldRoomSpec)) foldRoomUptoCard

/-- THE SECOND FORM's CARD OF 'moietylaw10.FoldWhole'. -/
def foldWholeUptoCard : Claim7 := { stood := { row := foldWholeUptoRow, standIns := [], harness := (true, "97b570d910256998f528dfd312a420b2b6abbc7e287e37cd6fdca6aebb410fdf"), looks := true }, kinds := [], alts := [], laidByText := true, laidKinds := [.data], laidTests := true, laidLooks := .later }
def FoldWholeUptoCardSaid : Prop := Claim7.holds Tryd.pinned (.plain (OpenSpec.upto foldWholeSpec)) foldWholeUptoCard
end Rows
end Go.Proofs.YtiggdpakpaickaaDoor
