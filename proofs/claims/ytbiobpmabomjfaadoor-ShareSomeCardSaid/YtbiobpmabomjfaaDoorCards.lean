/-
  DERIVED. GIVEN WITH THE SEED: THE CARDS: each row of YtbiobpmabomjfaaDoorRows.lean that lists a variable, with what it lists TIED to the program's text (the seventh form; the later family's looks); each row that meets fmt, with fmt's text TOLD by the authors' own Lean function (tested against real Go, not proved from fmt's source: count such statements apart). THE CARD IS WHAT COUNTS. Prove the row's statement (the work); the ties are given (YtbiobpmabomjfaaDoorTie.lean); close each card by the builder's one call (the guide's Derived/Test/ToyasCard.lean, 'card_holds'). Laid BY PROGRAM, IN A SANDBOX (cutbox-door.mjs). By AI agents, Wed Nov 11 2026. No macro, syntax, notation, axiom, sorry.
-/
import Derived.Test.YtbiobpmabomjfaaDoorRows
import GoSem.ClaimSeven
namespace Go.Proofs.YtbiobpmabomjfaaDoor
namespace Rows

/-- THE TIED CARD OF 'moietylaw07.ShareSlices'. -/
def shareSlicesCard : Claim7 := { stood := { row := shareSlicesRow, standIns := [], harness := (true, "3aa006449d8ddc9dc8d5c5e333f2b4dcad9319e64e39586c0df1deb5178ade36"), looks := false }, kinds := [], alts := [], laidByText := true, laidKinds := [.data], laidTests := true, laidLooks := .later }
def ShareSlicesCardSaid : Prop := Claim7.holds Tryd.pinned (.plain (OpenSpec.ofChange shareSlicesSpec)) shareSlicesCard

/-- THE TIED CARD OF 'moietylaw07.ShareMerges'. -/
def shareMergesCard : Claim7 := { stood := { row := shareMergesRow, standIns := [], harness := (true, "3aa006449d8ddc9dc8d5c5e333f2b4dcad9319e64e39586c0df1deb5178ade36"), looks := false }, kinds := [], alts := [], laidByText := true, laidKinds := [.data], laidTests := true, laidLooks := .later }
def ShareMergesCardSaid : Prop := Claim7.holds Tryd.pinned (.plain (OpenSpec.ofChange shareMergesSpec)) shareMergesCard

/-- THE TIED CARD OF 'moietylaw07.ShareEscrow'. -/
def shareEscrowCard : Claim7 := { stood := { row := shareEscrowRow, standIns := [], harness := (true, "3aa006449d8ddc9dc8d5c5e333f2b4dcad9319e64e39586c0df1deb5178ade36"), looks := false }, kinds := [], alts := [], laidByText := true, laidKinds := [.data], laidTests := true, laidLooks := .later }
def ShareEscrowCardSaid : Prop := Claim7.holds Tryd.pinned (.plain (OpenSpec.ofChange shareEscrowSpec)) shareEscrowCard

/-- THE TIED CARD OF 'moietylaw07.ShareSome'. -/
def shareSomeCard : Claim7 := { stood := { row := shareSomeRow, standIns := [], harness := (true, "3aa006449d8ddc9dc8d5c5e333f2b4dcad9319e64e39586c0df1deb5178ade36"), looks := false }, kinds := [], alts := [], laidByText := true, laidKinds := [.data], laidTests := true, laidLooks := .later }
def ShareSomeCardSaid : Prop := Claim7.holds Tryd.pinned (.plain (OpenSpec.ofChange shareSomeSpec)) shareSomeCard

/-- THE TIED CARD OF 'moietylaw07.ShareDraws'. -/
def shareDrawsCard : Claim7 := { stood := { row := shareDrawsRow, standIns := [], harness := (true, "3aa006449d8ddc9dc8d5c5e333f2b4dcad9319e64e39586c0df1deb5178ade36"), looks := false }, kinds := [], alts := [], laidByText := true, laidKinds := [.data], laidTests := true, laidLooks := .later }
def ShareDrawsCardSaid : Prop := Claim7.holds Tryd.pinned (.plain (OpenSpec.ofChange shareDrawsSpec)) shareDrawsCard

/-- THE SECOND FORM's CARD OF 'moietylaw07.ShareSlices'. -/
def shareSlicesUptoCard : Claim7 := { stood := { row := shareSlicesUptoRow, standIns := [], harness := (true, "3aa006449d8ddc9dc8d5c5e333f2b4dcad9319e64e39586c0df1deb5178ade36"), looks := false }, kinds := [], alts := [], laidByText := true, laidKinds := [.data], laidTests := true, laidLooks := .later }
def ShareSlicesUptoCardSaid : Prop := Claim7.holds Tryd.pinned (.plain (OpenSpec.upto shareSlicesSpec)) shareSlicesUptoCard

/-- THE SECOND FORM's CARD OF 'moietylaw07.ShareMerges'. -/
def shareMergesUptoCard : Claim7 := { stood := { row := shareMergesUptoRow, standIns := [], harness := (true, "3aa006449d8ddc9dc8d5c5e333f2b4dcad9319e64e39586c0df1deb5178ade36"), looks := false }, kinds := [], alts := [], laidByText := true, laidKinds := [.data], laidTests := true, laidLooks := .later }
def ShareMergesUptoCardSaid : Prop := Claim7.holds Tryd.pinned (.plain (OpenSpec.upto shareMergesSpec)) shareMergesUptoCard

/-- THE SECOND FORM's CARD OF 'moietylaw07.ShareEscrow'. -/
def shareEscrowUptoCard : Claim7 := { stood := { row := shareEscrowUptoRow, standIns := [], harness := (true, "3aa006449d8ddc9dc8d5c5e333f2b4dcad9319e64e39586c0df1deb5178ade36"), looks := false }, kinds := [], alts := [], laidByText := true, laidKinds := [.data], laidTests := true, laidLooks := .later }
def ShareEscrowUptoCardSaid : Prop := Claim7.holds Tryd.pinned (.plain (OpenSpec.upto shareEscrowSpec)) shareEscrowUptoCard

/-- THE SECOND FORM's CARD OF 'moietylaw07.ShareSome'. -/
def shareSomeUptoCard : Claim7 := { stood := { row := shareSomeUptoRow, standIns := [], harness := (true, "3aa006449d8ddc9dc8d5c5e333f2b4dcad9319e64e39586c0df1deb5178ade36"), looks := false }, kinds := [], alts := [], laidByText := true, laidKinds := [.data], laidTests := true, laidLooks := .later }
def ShareSomeUptoCardSaid : Prop := Claim7.holds Tryd.pinned (.plain (OpenSpec.upto shareSomeSpec)) shareSomeUptoCard

/-- THE SECOND FORM's CARD OF 'moietylaw07.ShareDraws'. -/
def shareDrawsUptoCard : Claim7 := { stood := { row := shareDrawsUptoRow, standIns := [], harness := (true, "3aa006449d8ddc9dc8d5c5e333f2b4dcad9319e64e39586c0df1deb5178ade36"), looks := false }, kinds := [], alts := [], laidByText := true, laidKinds := [.data], laidTests := true, laidLooks := .later }
def ShareDrawsUptoCardSaid : Prop := Claim7.holds Tryd.pinned (.plain (OpenSpec.upto shareDrawsSpec)) shareDrawsUptoCard
end Rows
end Go.Proofs.YtbiobpmabomjfaaDoor
