/-
  DERIVED. GIVEN WITH THE SEED: THE CARDS: each row of YtlanlccmokaajaaGreatDoorRows.lean that lists a variable, with what it lists TIED to the program's text (the seventh form; the later family's looks); each row that meets fmt, with fmt's text TOLD by the authors' own Lean function (tested against real Go, not proved from fmt's source: count such statements apart). THE CARD IS WHAT COUNTS. Prove the row's statement (the work); the ties are given (YtlanlccmokaajaaGreatDoorTie.lean); close each card by the builder's one call (the guide's Derived/Test/ToyasCard.lean, 'card_holds'). Laid BY PROGRAM, IN A SANDBOX (cutbox-door.mjs). By AI agents, Wed Nov 11 2026. No macro, syntax, notation, axiom, sorry.
-/
import Derived.Test.YtlanlccmokaajaaGreatDoorRows
import GoSem.ClaimSeven
namespace Go.Proofs.YtlanlccmokaajaaGreatDoor
namespace Rows

/-- THE TIED CARD OF 'moietylaw15.HandReads'. -/
def handReadsCard : Claim7 := { stood := { row := handReadsRow, standIns := [], harness := (true, "742167b159ec3a4f522c33c9de0194a4b520730ba2e9e03a283e4a3108c93551"), looks := false }, kinds := [], alts := [], laidByText := true, laidKinds := [.data], laidTests := true, laidLooks := .later }
def HandReadsCardSaid : Prop := Claim7.holds Tryz.pinned (.plain (OpenSpec.ofChange handReadsSpec)) handReadsCard

/-- THE TIED CARD OF 'moietylaw15.HandAlone'. -/
def handAloneCard : Claim7 := { stood := { row := handAloneRow, standIns := [], harness := (true, "742167b159ec3a4f522c33c9de0194a4b520730ba2e9e03a283e4a3108c93551"), looks := false }, kinds := [], alts := [], laidByText := true, laidKinds := [.data], laidTests := true, laidLooks := .later }
def HandAloneCardSaid : Prop := Claim7.holds Tryz.pinned (.plain (OpenSpec.ofChange handAloneSpec)) handAloneCard

/-- THE TIED CARD OF 'moietylaw15.HandSplit'. -/
def handSplitCard : Claim7 := { stood := { row := handSplitRow, standIns := [], harness := (true, "742167b159ec3a4f522c33c9de0194a4b520730ba2e9e03a283e4a3108c93551"), looks := false }, kinds := [], alts := [], laidByText := true, laidKinds := [.data], laidTests := true, laidLooks := .later }
def HandSplitCardSaid : Prop := Claim7.holds Tryz.pinned (.plain (OpenSpec.ofChange handSplitSpec)) handSplitCard

/-- THE TIED CARD OF 'moietylaw15.HandApart'. -/
def handApartCard : Claim7 := { stood := { row := handApartRow, standIns := [], harness := (true, "742167b159ec3a4f522c33c9de0194a4b520730ba2e9e03a283e4a3108c93551"), looks := false }, kinds := [], alts := [], laidByText := true, laidKinds := [.data], laidTests := true, laidLooks := .later }
def HandApartCardSaid : Prop := Claim7.holds Tryz.pinned (.plain (OpenSpec.ofChange handApartSpec)) handApartCard

/-- THE SECOND FORM's CARD OF 'moietylaw15.HandReads'. -/
def handReadsUptoCard : Claim7 := { stood := { row := handReadsUptoRow, standIns := [], harness := (true, "742167b159ec3a4f522c33c9de0194a4b520730ba2e9e03a283e4a3108c93551"), looks := false }, kinds := [], alts := [], laidByText := true, laidKinds := [.data], laidTests := true, laidLooks := .later }
def HandReadsUptoCardSaid : Prop := Claim7.holds Tryz.pinned (.plain (OpenSpec.upto handReadsSpec)) handReadsUptoCard

/-- THE SECOND FORM's CARD OF 'moietylaw15.HandAlone'. -/
def handAloneUptoCard : Claim7 := { stood := { row := handAloneUptoRow, standIns := [], harness := (true, "742167b159ec3a4f522c33c9de0194a4b520730ba2e9e03a283e4a3108c93551"), looks := false }, kinds := [], alts := [], laidByText := true, laidKinds := [.data], laidTests := true, laidLooks := .later }
def HandAloneUptoCardSaid : Prop := Claim7.holds Tryz.pinned (.plain (OpenSpec.upto handAloneSpec)) handAloneUptoCard

/-- THE SECOND FORM's CARD OF 'moietylaw15.HandSplit'. -/
def handSplitUptoCard : Claim7 := { stood := { row := handSplitUptoRow, standIns := [], harness := (true, "742167b159ec3a4f522c33c9de0194a4b520730ba2e9e03a283e4a3108c93551"), looks := false }, kinds := [], alts := [], laidByText := true, laidKinds := [.data], laidTests := true, laidLooks := .later }
def HandSplitUptoCardSaid : Prop := Claim7.holds Tryz.pinned (.plain (OpenSpec.upto handSplitSpec)) handSplitUptoCard

/-- THE SECOND FORM's CARD OF 'moietylaw15.HandApart'. -/
def handApartUptoCard : Claim7 := { stood := { row := handApartUptoRow, standIns := [], harness := (true, "742167b159ec3a4f522c33c9de0194a4b520730ba2e9e03a283e4a3108c93551"), looks := false }, kinds := [], alts := [], laidByText := true, laidKinds := [.data], laidTests := true, laidLooks := .later }
def HandApartUptoCardSaid : Prop := Claim7.holds Tryz.pinned (.plain (OpenSpec.upto handApartSpec)) handApartUptoCard
end Rows
end Go.Proofs.YtlanlccmokaajaaGreatDoor
