/-
  No cell of these rows narrows 'for every input' (looked for: loops, veiled, ifaces, maps, wideKeys, modest, calm, conditions, laid).
  DERIVED. THE GIVEN ROWS OF THIS SEAT. 4 by the template 'for every input the law returns true; each argument reads behind the call as it read before'; 0 by the template 'total and deterministic' (their statements: YtbepodihebbahaaTotals.lean).
  GIVEN WITH THE SEED: the statements are not yours to turn. If you find one false, say at which input.
  Laid BY PROGRAM, IN A SANDBOX (cutbox-rows.mjs): the forced cells as the released guide's own fill.sh prints them over the translation fda51016caadd905… (all of the seat's roots in one cut). By AI agents, Wed Nov 11 2026. No macro, syntax, notation, axiom, sorry.
-/
import Derived.Test.YtbepodihebbahaaChecked
import GoSem.Claim
import GoSem.ClaimJoined
import GoSem.ClaimMapViews
import Derived.JoinedTies
import Derived.KernelRfl
namespace Go.Proofs.Ytbepodihebbahaa
/- THE CELL 'sum', in the pinned program and in every row, IS THE sha256 OF THE DUMP (.gsa) THAT YtbepodihebbahaaProg.lean LOADS. Nothing in Lean hashes anything: it is a label: what it is worth is what the hold of that sum in a sandbox is worth. -/
noncomputable def Try.pinned : Pinned := { name := "ytbepodihebbahaa", sum := "fda51016caadd905f19940fc7b3860d0b5604d5162b78e7a43d70041a0a5f257", checked := Try.checked }
namespace Rows
def none {H : Type} : Left H := { results := [], args := [] }

/-- 'moietylaw14.LineWaits': WHATEVER THE INPUT: true; the input reads as it did. -/
def lineWaitsSpec : ChangeSpec := { name := "lineWaits", fn := fun _ => fun
  | [d1, d2, d3] => { results := [.lit (.bool true)], args := [d1, d2, d3] }
  | _ => none }
def lineWaitsRow : OpenClaim := { program := "ytbepodihebbahaa", sum := "fda51016caadd905f19940fc7b3860d0b5604d5162b78e7a43d70041a0a5f257", func := "moiety/moietylaw14.LineWaits", spec := "lineWaits", unfollowed := true, recurses := true, apart := false }
def LineWaitsSaid : Prop := lineWaitsRow.holds Try.pinned (OpenSpec.ofChange lineWaitsSpec)

/-- ITS FALSE NEIGHBOUR: 'it returns false'. Refute it at one input. -/
def lineWaitsWrong : ChangeSpec := { name := "lineWaits", fn := fun _ => fun
  | [d1, d2, d3] => { results := [.lit (.bool false)], args := [d1, d2, d3] }
  | _ => none }
def LineWaitsWrongFalsely : Prop := lineWaitsRow.holds Try.pinned (OpenSpec.ofChange lineWaitsWrong)

/-- 'moietylaw14.LineFree': WHATEVER THE INPUT: true; the input reads as it did. -/
def lineFreeSpec : ChangeSpec := { name := "lineFree", fn := fun _ => fun
  | [d1, d2, d3] => { results := [.lit (.bool true)], args := [d1, d2, d3] }
  | _ => none }
def lineFreeRow : OpenClaim := { program := "ytbepodihebbahaa", sum := "fda51016caadd905f19940fc7b3860d0b5604d5162b78e7a43d70041a0a5f257", func := "moiety/moietylaw14.LineFree", spec := "lineFree", unfollowed := true, recurses := true, apart := false }
def LineFreeSaid : Prop := lineFreeRow.holds Try.pinned (OpenSpec.ofChange lineFreeSpec)

/-- ITS FALSE NEIGHBOUR: 'it returns false'. Refute it at one input. -/
def lineFreeWrong : ChangeSpec := { name := "lineFree", fn := fun _ => fun
  | [d1, d2, d3] => { results := [.lit (.bool false)], args := [d1, d2, d3] }
  | _ => none }
def LineFreeWrongFalsely : Prop := lineFreeRow.holds Try.pinned (OpenSpec.ofChange lineFreeWrong)

/-- 'moietylaw14.LineApart': WHATEVER THE INPUT: true; the input reads as it did. -/
def lineApartSpec : ChangeSpec := { name := "lineApart", fn := fun _ => fun
  | [d1, d2, d3] => { results := [.lit (.bool true)], args := [d1, d2, d3] }
  | _ => none }
def lineApartRow : OpenClaim := { program := "ytbepodihebbahaa", sum := "fda51016caadd905f19940fc7b3860d0b5604d5162b78e7a43d70041a0a5f257", func := "moiety/moietylaw14.LineApart", spec := "lineApart", unfollowed := true, recurses := true, apart := false }
def LineApartSaid : Prop := lineApartRow.holds Try.pinned (OpenSpec.ofChange lineApartSpec)

/-- ITS FALSE NEIGHBOUR: 'it returns false'. Refute it at one input. -/
def lineApartWrong : ChangeSpec := { name := "lineApart", fn := fun _ => fun
  | [d1, d2, d3] => { results := [.lit (.bool false)], args := [d1, d2, d3] }
  | _ => none }
def LineApartWrongFalsely : Prop := lineApartRow.holds Try.pinned (OpenSpec.ofChange lineApartWrong)

/-- 'moietylaw14.LineKeeps': WHATEVER THE INPUT: true; the input reads as it did. -/
def lineKeepsSpec : ChangeSpec := { name := "lineKeeps", fn := fun _ => fun
  | [d1, d2, d3] => { results := [.lit (.bool true)], args := [d1, d2, d3] }
  | _ => none }
def lineKeepsRow : OpenClaim := { program := "ytbepodihebbahaa", sum := "fda51016caadd905f19940fc7b3860d0b5604d5162b78e7a43d70041a0a5f257", func := "moiety/moietylaw14.LineKeeps", spec := "lineKeeps", unfollowed := true, recurses := true, apart := false }
def LineKeepsSaid : Prop := lineKeepsRow.holds Try.pinned (OpenSpec.ofChange lineKeepsSpec)

/-- ITS FALSE NEIGHBOUR: 'it returns false'. Refute it at one input. -/
def lineKeepsWrong : ChangeSpec := { name := "lineKeeps", fn := fun _ => fun
  | [d1, d2, d3] => { results := [.lit (.bool false)], args := [d1, d2, d3] }
  | _ => none }
def LineKeepsWrongFalsely : Prop := lineKeepsRow.holds Try.pinned (OpenSpec.ofChange lineKeepsWrong)

/- THE SECOND FORM. 'bulk': how many values and letters a reading holds, each counted each time it is reached (what is shared counts as often as it is met; a slice's spare places count too). A statement '..UptoSaid' is the law's where the arguments, and the package variables that the reading takes, are together of bulk at most 1048576: NARROWER than '..Said'. Prove '..Said' where nothing that the law and all that it calls make is longer than what came in: it says more and counts as full. Else prove '..UptoSaid'. A law counts once. -/
mutual
def uptoBulk {H : Type} : DataW H → Nat
  | .lit (.string bytes) => bytes.length + 1
  | .lit _ => 1
  | .nil => 1
  | .ptr d => uptoBulk d + 1
  | .slice elems spare => uptoBulkAll elems + uptoBulkAll spare + 1
  | .agg parts => uptoBulkAll parts + 1
  | .iface _ d => uptoBulk d + 1
  | .map entries => uptoBulkEntries entries + 1
  | .held _ => 1
def uptoBulkAll {H : Type} : List (DataW H) → Nat
  | [] => 0
  | d :: r => uptoBulk d + uptoBulkAll r
def uptoBulkEntries {H : Type} : List (Lit × DataW H) → Nat
  | [] => 0
  | x :: r => uptoBulkEntry x + uptoBulkEntries r
def uptoBulkEntry {H : Type} : Lit × DataW H → Nat
  | (.string bytes, d) => bytes.length + uptoBulk d + 1
  | (_, d) => uptoBulk d + 1
 end
def uptoSmall : (H : Type) → List (DataW H) → Bool := fun _ ds => decide (uptoBulkAll ds ≤ 1048576)
def OpenSpec.upto (s : _root_.Go.ChangeSpec) : _root_.Go.OpenSpec := { _root_.Go.OpenSpec.ofChange s with cond := some uptoSmall }

/-- 'moietylaw14.LineWaits', WHERE WHAT IT READS IS OF BULK AT MOST 1048576: true; the input reads as it did. -/
def lineWaitsUptoRow : OpenClaim := { program := "ytbepodihebbahaa", sum := "fda51016caadd905f19940fc7b3860d0b5604d5162b78e7a43d70041a0a5f257", func := "moiety/moietylaw14.LineWaits", spec := "lineWaits", unfollowed := true, recurses := true, apart := false, narrowed := true }
def LineWaitsUptoSaid : Prop := lineWaitsUptoRow.holds Try.pinned (OpenSpec.upto lineWaitsSpec)

/-- 'moietylaw14.LineFree', WHERE WHAT IT READS IS OF BULK AT MOST 1048576: true; the input reads as it did. -/
def lineFreeUptoRow : OpenClaim := { program := "ytbepodihebbahaa", sum := "fda51016caadd905f19940fc7b3860d0b5604d5162b78e7a43d70041a0a5f257", func := "moiety/moietylaw14.LineFree", spec := "lineFree", unfollowed := true, recurses := true, apart := false, narrowed := true }
def LineFreeUptoSaid : Prop := lineFreeUptoRow.holds Try.pinned (OpenSpec.upto lineFreeSpec)

/-- 'moietylaw14.LineApart', WHERE WHAT IT READS IS OF BULK AT MOST 1048576: true; the input reads as it did. -/
def lineApartUptoRow : OpenClaim := { program := "ytbepodihebbahaa", sum := "fda51016caadd905f19940fc7b3860d0b5604d5162b78e7a43d70041a0a5f257", func := "moiety/moietylaw14.LineApart", spec := "lineApart", unfollowed := true, recurses := true, apart := false, narrowed := true }
def LineApartUptoSaid : Prop := lineApartUptoRow.holds Try.pinned (OpenSpec.upto lineApartSpec)

/-- 'moietylaw14.LineKeeps', WHERE WHAT IT READS IS OF BULK AT MOST 1048576: true; the input reads as it did. -/
def lineKeepsUptoRow : OpenClaim := { program := "ytbepodihebbahaa", sum := "fda51016caadd905f19940fc7b3860d0b5604d5162b78e7a43d70041a0a5f257", func := "moiety/moietylaw14.LineKeeps", spec := "lineKeeps", unfollowed := true, recurses := true, apart := false, narrowed := true }
def LineKeepsUptoSaid : Prop := lineKeepsUptoRow.holds Try.pinned (OpenSpec.upto lineKeepsSpec)

end Rows
end Go.Proofs.Ytbepodihebbahaa
