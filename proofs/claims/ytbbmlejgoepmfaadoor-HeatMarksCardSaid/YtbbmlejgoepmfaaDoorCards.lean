/-
  DERIVED. GIVEN WITH THE SEED: THE CARDS: each row of YtbbmlejgoepmfaaDoorRows.lean that lists a variable, with what it lists TIED to the program's text (the seventh form; the later family's looks); each row that meets fmt, with fmt's text TOLD by the authors' own Lean function (tested against real Go, not proved from fmt's source: count such statements apart). THE CARD IS WHAT COUNTS. Prove the row's statement (the work); the ties are given (YtbbmlejgoepmfaaDoorTie.lean); close each card by the builder's one call (the guide's Derived/Test/ToyasCard.lean, 'card_holds'). Laid BY PROGRAM, IN A SANDBOX (cutbox-door.mjs). By AI agents, Wed Nov 11 2026. No macro, syntax, notation, axiom, sorry.
-/
import Derived.Test.YtbbmlejgoepmfaaDoorRows
import GoSem.ClaimSeven
namespace Go.Proofs.YtbbmlejgoepmfaaDoor
namespace Rows

/-- THE TIED CARD OF 'moietylaw12.HeatNotes'. -/
def heatNotesCard : Claim7 := { stood := { row := heatNotesRow, standIns := [], harness := (true, "0f385618a5a781f486d398e3341a6d17e16545868650a458dabb3384b4aaa6c1"), looks := true }, kinds := [], alts := [], laidByText := true, laidKinds := [.data], laidTests := true, laidLooks := .later }
def HeatNotesCardSaid : Prop := Claim7.holds Tryd.pinned (.plain (OpenSpec.ofChange heatNotesSpec)) heatNotesCard

/-- THE TIED CARD OF 'moietylaw12.HeatFades'. -/
def heatFadesCard : Claim7 := { stood := { row := heatFadesRow, standIns := [], harness := (true, "0f385618a5a781f486d398e3341a6d17e16545868650a458dabb3384b4aaa6c1"), looks := true }, kinds := [], alts := [], laidByText := true, laidKinds := [.data], laidTests := true, laidLooks := .later }
def HeatFadesCardSaid : Prop := Claim7.holds Tryd.pinned (.plain (OpenSpec.ofChange heatFadesSpec)) heatFadesCard

/-- THE TIED CARD OF 'moietylaw12.HeatMarks'. -/
def heatMarksCard : Claim7 := { stood := { row := heatMarksRow, standIns := [], harness := (true, "0f385618a5a781f486d398e3341a6d17e16545868650a458dabb3384b4aaa6c1"), looks := true }, kinds := [], alts := [], laidByText := true, laidKinds := [.data], laidTests := true, laidLooks := .later }
def HeatMarksCardSaid : Prop := Claim7.holds Tryd.pinned (.plain (OpenSpec.ofChange heatMarksSpec)) heatMarksCard

/-- THE TIED CARD OF 'moietylaw12.HeatBounds'. -/
def heatBoundsCard : Claim7 := { stood := { row := heatBoundsRow, standIns := [], harness := (true, "0f385618a5a781f486d398e3341a6d17e16545868650a458dabb3384b4aaa6c1"), looks := true }, kinds := [], alts := [], laidByText := true, laidKinds := [.data], laidTests := true, laidLooks := .later }
def HeatBoundsCardSaid : Prop := Claim7.holds Tryd.pinned (.plain (OpenSpec.ofChange heatBoundsSpec)) heatBoundsCard

/-- THE SECOND FORM's CARD OF 'moietylaw12.HeatNotes'. -/
def heatNotesUptoCard : Claim7 := { stood := { row := heatNotesUptoRow, standIns := [], harness := (true, "0f385618a5a781f486d398e3341a6d17e16545868650a458dabb3384b4aaa6c1"), looks := true }, kinds := [], alts := [], laidByText := true, laidKinds := [.data], laidTests := true, laidLooks := .later }
def HeatNotesUptoCardSaid : Prop := Claim7.holds Tryd.pinned (.plain (OpenSpec.upto heatNotesSpec)) heatNotesUptoCard

/-- THE SECOND FORM's CARD OF 'moietylaw12.HeatFades'. -/
def heatFadesUptoCard : Claim7 := { stood := { row := heatFadesUptoRow, standIns := [], harness := (true, "0f385618a5a781f486d398e3341a6d17e16545868650a458dabb3384b4aaa6c1"), looks := true }, kinds := [], alts := [], laidByText := true, laidKinds := [.data], laidTests := true, laidLooks := .later }
def HeatFadesUptoCardSaid : Prop := Claim7.holds Tryd.pinned (.plain (OpenSpec.upto heatFadesSpec)) heatFadesUptoCard

/-- THE SECOND FORM's CARD OF 'moietylaw12.HeatMarks'. -/
def heatMarksUptoCard : Claim7 := { stood := { row := heatMarksUptoRow, standIns := [], harness := (true, "0f385618a5a781f486d398e3341a6d17e16545868650a458dabb3384b4aaa6c1"), looks := true }, kinds := [], alts := [], laidByText := true, laidKinds := [.data], laidTests := true, laidLooks := .later }
def HeatMarksUptoCardSaid : Prop := Claim7.holds Tryd.pinned (.plain (OpenSpec.upto heatMarksSpec)) heatMarksUptoCard

/-- THE SECOND FORM's CARD OF 'moietylaw12.HeatBounds'. -/
def heatBoundsUptoCard : Claim7 := { stood := { row := heatBoundsUptoRow, standIns := [], harness := (true, "0f385618a5a781f486d398e3341a6d17e16545868650a458dabb3384b4aaa6c1"), looks := true }, kinds := [], alts := [], laidByText := true, laidKinds := [.data], laidTests := true, laidLooks := .later }
def HeatBoundsUptoCardSaid : Prop := Claim7.holds Tryd.pinned (.plain (OpenSpec.upto heatBoundsSpec)) heatBoundsUptoCard
end Rows
end Go.Proofs.YtbbmlejgoepmfaaDoor
