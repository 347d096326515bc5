/-
  No cell of these rows narrows 'for every input' (looked for: loops, veiled, ifaces, maps, wideKeys, modest, calm, conditions, laid).
  DERIVED. THE GIVEN ROWS OF THIS SEAT. 5 by the template 'for every input the law returns true; each argument reads behind the call as it read before'; 0 by the template 'total and deterministic' (their statements: YtlphnpmegolfmaaTotals.lean).
  GIVEN WITH THE SEED: the statements are not yours to turn. If you find one false, say at which input.
  Laid BY PROGRAM, IN A SANDBOX (cutbox-rows.mjs): the forced cells as the released guide's own fill.sh prints them over the translation a53da52ecfcf861d… (all of the seat's roots in one cut). By AI agents, Wed Nov 11 2026. No macro, syntax, notation, axiom, sorry.
-/
import Derived.Test.YtlphnpmegolfmaaChecked
import GoSem.Claim
import GoSem.ClaimJoined
import GoSem.ClaimMapViews
import Derived.JoinedTies
import Derived.KernelRfl
namespace Go.Proofs.Ytlphnpmegolfmaa
/- THE CELL 'sum', in the pinned program and in every row, IS THE sha256 OF THE DUMP (.gsa) THAT YtlphnpmegolfmaaProg.lean LOADS. Nothing in Lean hashes anything: it is a label: what it is worth is what the hold of that sum in a sandbox is worth. -/
noncomputable def Try.pinned : Pinned := { name := "ytlphnpmegolfmaa", sum := "a53da52ecfcf861dad825f4363a801124038ed947fdc55583c6f52243a25124d", checked := Try.checked }
namespace Rows
def none {H : Type} : Left H := { results := [], args := [] }

/-- 'moietylaw09.ShelfOrders': WHATEVER THE INPUT: true; the input reads as it did. -/
def shelfOrdersSpec : ChangeSpec := { name := "shelfOrders", fn := fun _ => fun
  | [d1, d2, d3] => { results := [.lit (.bool true)], args := [d1, d2, d3] }
  | _ => none }
def shelfOrdersRow : OpenClaim := { program := "ytlphnpmegolfmaa", sum := "a53da52ecfcf861dad825f4363a801124038ed947fdc55583c6f52243a25124d", func := "moiety/moietylaw09.ShelfOrders", spec := "shelfOrders", inPlace := ["math.Float64frombits", "math.Float64bits"], unfollowed := true, recurses := true, apart := false }
def ShelfOrdersSaid : Prop := shelfOrdersRow.holds Try.pinned (OpenSpec.ofChange shelfOrdersSpec)

/-- ITS FALSE NEIGHBOUR: 'it returns false'. Refute it at one input. -/
def shelfOrdersWrong : ChangeSpec := { name := "shelfOrders", fn := fun _ => fun
  | [d1, d2, d3] => { results := [.lit (.bool false)], args := [d1, d2, d3] }
  | _ => none }
def ShelfOrdersWrongFalsely : Prop := shelfOrdersRow.holds Try.pinned (OpenSpec.ofChange shelfOrdersWrong)

/-- 'moietylaw09.ShelfSame': WHATEVER THE INPUT: true; the input reads as it did. -/
def shelfSameSpec : ChangeSpec := { name := "shelfSame", fn := fun _ => fun
  | [d1, d2] => { results := [.lit (.bool true)], args := [d1, d2] }
  | _ => none }
def shelfSameRow : OpenClaim := { program := "ytlphnpmegolfmaa", sum := "a53da52ecfcf861dad825f4363a801124038ed947fdc55583c6f52243a25124d", func := "moiety/moietylaw09.ShelfSame", spec := "shelfSame", inPlace := ["math.Float64frombits", "math.Float64bits"], unfollowed := true, recurses := true, apart := false }
def ShelfSameSaid : Prop := shelfSameRow.holds Try.pinned (OpenSpec.ofChange shelfSameSpec)

/-- ITS FALSE NEIGHBOUR: 'it returns false'. Refute it at one input. -/
def shelfSameWrong : ChangeSpec := { name := "shelfSame", fn := fun _ => fun
  | [d1, d2] => { results := [.lit (.bool false)], args := [d1, d2] }
  | _ => none }
def ShelfSameWrongFalsely : Prop := shelfSameRow.holds Try.pinned (OpenSpec.ofChange shelfSameWrong)

/-- 'moietylaw09.ShelfDoes': WHATEVER THE INPUT: true; the input reads as it did. -/
def shelfDoesSpec : ChangeSpec := { name := "shelfDoes", fn := fun _ => fun
  | [d1, d2] => { results := [.lit (.bool true)], args := [d1, d2] }
  | _ => none }
def shelfDoesRow : OpenClaim := { program := "ytlphnpmegolfmaa", sum := "a53da52ecfcf861dad825f4363a801124038ed947fdc55583c6f52243a25124d", func := "moiety/moietylaw09.ShelfDoes", spec := "shelfDoes", inPlace := ["math.Float64frombits", "math.Float64bits"], unfollowed := true, recurses := true, apart := false }
def ShelfDoesSaid : Prop := shelfDoesRow.holds Try.pinned (OpenSpec.ofChange shelfDoesSpec)

/-- ITS FALSE NEIGHBOUR: 'it returns false'. Refute it at one input. -/
def shelfDoesWrong : ChangeSpec := { name := "shelfDoes", fn := fun _ => fun
  | [d1, d2] => { results := [.lit (.bool false)], args := [d1, d2] }
  | _ => none }
def ShelfDoesWrongFalsely : Prop := shelfDoesRow.holds Try.pinned (OpenSpec.ofChange shelfDoesWrong)

/-- 'moietylaw09.ShelfStays': WHATEVER THE INPUT: true; the input reads as it did. -/
def shelfStaysSpec : ChangeSpec := { name := "shelfStays", fn := fun _ => fun
  | [d1, d2] => { results := [.lit (.bool true)], args := [d1, d2] }
  | _ => none }
def shelfStaysRow : OpenClaim := { program := "ytlphnpmegolfmaa", sum := "a53da52ecfcf861dad825f4363a801124038ed947fdc55583c6f52243a25124d", func := "moiety/moietylaw09.ShelfStays", spec := "shelfStays", inPlace := ["math.Float64frombits", "math.Float64bits"], unfollowed := true, recurses := true, apart := false }
def ShelfStaysSaid : Prop := shelfStaysRow.holds Try.pinned (OpenSpec.ofChange shelfStaysSpec)

/-- ITS FALSE NEIGHBOUR: 'it returns false'. Refute it at one input. -/
def shelfStaysWrong : ChangeSpec := { name := "shelfStays", fn := fun _ => fun
  | [d1, d2] => { results := [.lit (.bool false)], args := [d1, d2] }
  | _ => none }
def ShelfStaysWrongFalsely : Prop := shelfStaysRow.holds Try.pinned (OpenSpec.ofChange shelfStaysWrong)

/-- 'moietylaw09.ShelfHigh': WHATEVER THE INPUT: true; the input reads as it did. -/
def shelfHighSpec : ChangeSpec := { name := "shelfHigh", fn := fun _ => fun
  | [d] => { results := [.lit (.bool true)], args := [d] }
  | _ => none }
def shelfHighRow : OpenClaim := { program := "ytlphnpmegolfmaa", sum := "a53da52ecfcf861dad825f4363a801124038ed947fdc55583c6f52243a25124d", func := "moiety/moietylaw09.ShelfHigh", spec := "shelfHigh", inPlace := ["math.Float64frombits", "math.Float64bits"], unfollowed := true, recurses := true, apart := false }
def ShelfHighSaid : Prop := shelfHighRow.holds Try.pinned (OpenSpec.ofChange shelfHighSpec)

/-- ITS FALSE NEIGHBOUR: 'it returns false'. Refute it at one input. -/
def shelfHighWrong : ChangeSpec := { name := "shelfHigh", fn := fun _ => fun
  | [d] => { results := [.lit (.bool false)], args := [d] }
  | _ => none }
def ShelfHighWrongFalsely : Prop := shelfHighRow.holds Try.pinned (OpenSpec.ofChange shelfHighWrong)

/- THE SECOND FORM. 'bulk': how many values and letters a reading holds, each counted each time it is reached (what is shared counts as often as it is met; a slice's spare places count too). A statement '..UptoSaid' is the law's where the arguments, and the package variables that the reading takes, are together of bulk at most 1048576: NARROWER than '..Said'. Prove '..Said' where nothing that the law and all that it calls make is longer than what came in: it says more and counts as full. Else prove '..UptoSaid'. A law counts once. -/
mutual
def uptoBulk {H : Type} : DataW H → Nat
  | .lit (.string bytes) => bytes.length + 1
  | .lit _ => 1
  | .nil => 1
  | .ptr d => uptoBulk d + 1
  | .slice elems spare => uptoBulkAll elems + uptoBulkAll spare + 1
  | .agg parts => uptoBulkAll parts + 1
  | .iface _ d => uptoBulk d + 1
  | .map entries => uptoBulkEntries entries + 1
  | .held _ => 1
def uptoBulkAll {H : Type} : List (DataW H) → Nat
  | [] => 0
  | d :: r => uptoBulk d + uptoBulkAll r
def uptoBulkEntries {H : Type} : List (Lit × DataW H) → Nat
  | [] => 0
  | x :: r => uptoBulkEntry x + uptoBulkEntries r
def uptoBulkEntry {H : Type} : Lit × DataW H → Nat
  | (.string bytes, d) => bytes.length + uptoBulk d + 1
  | (_, d) => uptoBulk d + 1
 end
def uptoSmall : (H : Type) → List (DataW H) → Bool := fun _ ds => decide (uptoBulkAll ds ≤ 1048576)
def OpenSpec.upto (s : _root_.Go.ChangeSpec) : _root_.Go.OpenSpec := { _root_.Go.OpenSpec.ofChange s with cond := some uptoSmall }

/-- 'moietylaw09.ShelfOrders', WHERE WHAT IT READS IS OF BULK AT MOST 1048576: true; the input reads as it did. -/
def shelfOrdersUptoRow : OpenClaim := { program := "ytlphnpmegolfmaa", sum := "a53da52ecfcf861dad825f4363a801124038ed947fdc55583c6f52243a25124d", func := "moiety/moietylaw09.ShelfOrders", spec := "shelfOrders", inPlace := ["math.Float64frombits", "math.Float64bits"], unfollowed := true, recurses := true, apart := false, narrowed := true }
def ShelfOrdersUptoSaid : Prop := shelfOrdersUptoRow.holds Try.pinned (OpenSpec.upto shelfOrdersSpec)

/-- 'moietylaw09.ShelfSame', WHERE WHAT IT READS IS OF BULK AT MOST 1048576: true; the input reads as it did. -/
def shelfSameUptoRow : OpenClaim := { program := "ytlphnpmegolfmaa", sum := "a53da52ecfcf861dad825f4363a801124038ed947fdc55583c6f52243a25124d", func := "moiety/moietylaw09.ShelfSame", spec := "shelfSame", inPlace := ["math.Float64frombits", "math.Float64bits"], unfollowed := true, recurses := true, apart := false, narrowed := true }
def ShelfSameUptoSaid : Prop := shelfSameUptoRow.holds Try.pinned (OpenSpec.upto shelfSameSpec)

/-- 'moietylaw09.ShelfDoes', WHERE WHAT IT READS IS OF BULK AT MOST 1048576: true; the input reads as it did. -/
def shelfDoesUptoRow : OpenClaim := { program := "ytlphnpmegolfmaa", sum := "a53da52ecfcf861dad825f4363a801124038ed947fdc55583c6f52243a25124d", func := "moiety/moietylaw09.ShelfDoes", spec := "shelfDoes", inPlace := ["math.Float64frombits", "math.Float64bits"], unfollowed := true, recurses := true, apart := false, narrowed := true }
def ShelfDoesUptoSaid : Prop := shelfDoesUptoRow.holds Try.pinned (OpenSpec.upto shelfDoesSpec)

/-- 'moietylaw09.ShelfStays', WHERE WHAT IT READS IS OF BULK AT MOST 1048576: true; the input reads as it did. -/
def shelfStaysUptoRow : OpenClaim := { program := "ytlphnpmegolfmaa", sum := "a53da52ecfcf861dad825f4363a801124038ed947fdc55583c6f52243a25124d", func := "moiety/moietylaw09.ShelfStays", spec := "shelfStays", inPlace := ["math.Float64frombits", "math.Float64bits"], unfollowed := true, recurses := true, apart := false, narrowed := true }
def ShelfStaysUptoSaid : Prop := shelfStaysUptoRow.holds Try.pinned (OpenSpec.upto shelfStaysSpec)

/-- 'moietylaw09.ShelfHigh', WHERE WHAT IT READS IS OF BULK AT MOST 1048576: true; the input reads as it did. -/
def shelfHighUptoRow : OpenClaim := { program := "ytlphnpmegolfmaa", sum := "a53da52ecfcf861dad825f4363a801124038ed947fdc55583c6f52243a25124d", func := "moiety/moietylaw09.ShelfHigh", spec := "shelfHigh", inPlace := ["math.Float64frombits", "math.Float64bits"], unfollowed := true, recurses := true, apart := false, narrowed := true }
def ShelfHighUptoSaid : Prop := shelfHighUptoRow.holds Try.pinned (OpenSpec.upto shelfHighSpec)

end Rows
end Go.Proofs.Ytlphnpmegolfmaa
