/-
  NARROWER THAN 'FOR EVERY INPUT', by the rows' own cells (each row's printed sentence says how): ShareSlices: laid · ShareMerges: laid · ShareEscrow: laid · ShareSome: laid · ShareDraws: laid.
  DERIVED. THE GIVEN ROWS OF THIS SEAT. 5 by the template 'for every input the law returns true; each argument reads behind the call as it read before'; 0 by the template 'total and deterministic' (their statements: YtbiobpmabomjfaaDoorTotals.lean).
  GIVEN WITH THE SEED: the statements are not yours to turn. If you find one false, say at which input.
  Laid BY PROGRAM, IN A SANDBOX (cutbox-rows.mjs): the forced cells as the released guide's own fill.sh prints them over the translation b7d6796334f158bc… (all of the seat's roots in one cut). By AI agents, Wed Nov 11 2026. No macro, syntax, notation, axiom, sorry.
-/
import Derived.Test.YtbiobpmabomjfaaDoorChecked
import GoSem.Claim
import GoSem.ClaimJoined
import GoSem.ClaimMapViews
import Derived.JoinedTies
import Derived.KernelRfl
namespace Go.Proofs.YtbiobpmabomjfaaDoor
/- THE CELL 'sum', in the pinned program and in every row, IS THE sha256 OF THE DUMP (.gsa) THAT YtbiobpmabomjfaaDoorProg.lean LOADS. Nothing in Lean hashes anything: it is a label: what it is worth is what the hold of that sum in a sandbox is worth. -/
noncomputable def Tryd.pinned : Pinned := { name := "ytbiobpmabomjfaadoor", sum := "b7d6796334f158bc29232c7113b30afd214a70920f9e4f5d07f6d4b91c9eead2", checked := Tryd.checked }
namespace Rows
def none {H : Type} : Left H := { results := [], args := [] }

/- WHAT THE LISTED PACKAGE-LEVEL VARIABLES READ AS WHEN THE CALL BEGINS. Each datum BY PROGRAM (the guide's laid-datum.mjs) off the statement by which the dump's own 'gosem.cut.vars' lays the variable. In a bare row this is a premise. The card (YtbiobpmabomjfaaDoorCards.lean) ties it to the program's text. -/
def laid_moiety_act_kinds {H : Type} : DataW H := .agg [.agg [.lit (.string []), .lit (.int .i64 0), .lit (.string [])], .agg [.lit (.string [110, 101, 119]), .lit (.int .i64 0), .lit (.string [109])], .agg [.lit (.string [100, 114, 111, 112]), .lit (.int .i64 0), .lit (.string [])], .agg [.lit (.string [105, 115]), .lit (.int .i64 0), .lit (.string [])], .agg [.lit (.string [108, 111, 111, 107]), .lit (.int .i64 0), .lit (.string [])], .agg [.lit (.string [112, 117, 116]), .lit (.int .i64 1), .lit (.string [115])], .agg [.lit (.string [115, 119, 97, 112]), .lit (.int .i64 1), .lit (.string [115])], .agg [.lit (.string [97, 100, 100]), .lit (.int .i64 2), .lit (.string [110])], .agg [.lit (.string [112, 108, 117, 115]), .lit (.int .i64 3), .lit (.string [110])], .agg [.lit (.string [114, 101, 97, 99, 104]), .lit (.int .i64 3), .lit (.string [110])], .agg [.lit (.string [105, 110]), .lit (.int .i64 4), .lit (.string [110])], .agg [.lit (.string [111, 117, 116]), .lit (.int .i64 4), .lit (.string [110])], .agg [.lit (.string [101, 110, 111, 117, 103, 104]), .lit (.int .i64 4), .lit (.string [110])], .agg [.lit (.string [114, 97, 105, 115, 101]), .lit (.int .i64 5), .lit (.string [120])], .agg [.lit (.string [108, 111, 119, 101, 114]), .lit (.int .i64 6), .lit (.string [120])], .agg [.lit (.string [115, 104, 105, 102, 116]), .lit (.int .i64 7), .lit (.string [120])], .agg [.lit (.string [115, 99, 97, 108, 101]), .lit (.int .i64 7), .lit (.string [120])], .agg [.lit (.string [102, 105, 120]), .lit (.int .i64 7), .lit (.string [120])], .agg [.lit (.string [106, 111, 105, 110]), .lit (.int .i64 8), .lit (.string [115])], .agg [.lit (.string [108, 101, 97, 118, 101]), .lit (.int .i64 8), .lit (.string [115])], .agg [.lit (.string [104, 97, 115]), .lit (.int .i64 8), .lit (.string [115])], .agg [.lit (.string [111, 102, 102, 101, 114]), .lit (.int .i64 9), .lit (.string [120, 115])]]

/-- 'moietylaw07.ShareSlices': WHATEVER THE INPUT: true; the input reads as it did. -/
def shareSlicesSpec : ChangeSpec := { name := "shareSlices", fn := fun _ => fun
  | [d1, d2, d3] => { results := [.lit (.bool true)], args := [d1, d2, d3] }
  | _ => none }
def shareSlicesRow : OpenClaim := { program := "ytbiobpmabomjfaadoor", sum := "b7d6796334f158bc29232c7113b30afd214a70920f9e4f5d07f6d4b91c9eead2", func := "moiety/moietylaw07.ShareSlices", spec := "shareSlices", inPlace := ["math.Float64frombits", "math.Float64bits", "slices.overlaps[moiety/api.Item]"], unfollowed := true, recurses := true, named := ["moiety/act.kinds"], apart := false, laid := [("moiety/act.kinds", laid_moiety_act_kinds)] }
def ShareSlicesSaid : Prop := shareSlicesRow.holds Tryd.pinned (OpenSpec.ofChange shareSlicesSpec)

/-- ITS FALSE NEIGHBOUR: 'it returns false'. Refute it at one input. -/
def shareSlicesWrong : ChangeSpec := { name := "shareSlices", fn := fun _ => fun
  | [d1, d2, d3] => { results := [.lit (.bool false)], args := [d1, d2, d3] }
  | _ => none }
def ShareSlicesWrongFalsely : Prop := shareSlicesRow.holds Tryd.pinned (OpenSpec.ofChange shareSlicesWrong)

/-- 'moietylaw07.ShareMerges': WHATEVER THE INPUT: true; the input reads as it did. -/
def shareMergesSpec : ChangeSpec := { name := "shareMerges", fn := fun _ => fun
  | [d1, d2, d3] => { results := [.lit (.bool true)], args := [d1, d2, d3] }
  | _ => none }
def shareMergesRow : OpenClaim := { program := "ytbiobpmabomjfaadoor", sum := "b7d6796334f158bc29232c7113b30afd214a70920f9e4f5d07f6d4b91c9eead2", func := "moiety/moietylaw07.ShareMerges", spec := "shareMerges", inPlace := ["math.Float64frombits", "math.Float64bits", "slices.overlaps[moiety/api.Item]"], unfollowed := true, recurses := true, named := ["moiety/act.kinds"], apart := false, laid := [("moiety/act.kinds", laid_moiety_act_kinds)] }
def ShareMergesSaid : Prop := shareMergesRow.holds Tryd.pinned (OpenSpec.ofChange shareMergesSpec)

/-- ITS FALSE NEIGHBOUR: 'it returns false'. Refute it at one input. -/
def shareMergesWrong : ChangeSpec := { name := "shareMerges", fn := fun _ => fun
  | [d1, d2, d3] => { results := [.lit (.bool false)], args := [d1, d2, d3] }
  | _ => none }
def ShareMergesWrongFalsely : Prop := shareMergesRow.holds Tryd.pinned (OpenSpec.ofChange shareMergesWrong)

/-- 'moietylaw07.ShareEscrow': WHATEVER THE INPUT: true; the input reads as it did. -/
def shareEscrowSpec : ChangeSpec := { name := "shareEscrow", fn := fun _ => fun
  | [d1, d2, d3] => { results := [.lit (.bool true)], args := [d1, d2, d3] }
  | _ => none }
def shareEscrowRow : OpenClaim := { program := "ytbiobpmabomjfaadoor", sum := "b7d6796334f158bc29232c7113b30afd214a70920f9e4f5d07f6d4b91c9eead2", func := "moiety/moietylaw07.ShareEscrow", spec := "shareEscrow", inPlace := ["math.Float64frombits", "math.Float64bits", "slices.overlaps[moiety/api.Item]"], unfollowed := true, recurses := true, named := ["moiety/act.kinds"], apart := false, laid := [("moiety/act.kinds", laid_moiety_act_kinds)] }
def ShareEscrowSaid : Prop := shareEscrowRow.holds Tryd.pinned (OpenSpec.ofChange shareEscrowSpec)

/-- ITS FALSE NEIGHBOUR: 'it returns false'. Refute it at one input. -/
def shareEscrowWrong : ChangeSpec := { name := "shareEscrow", fn := fun _ => fun
  | [d1, d2, d3] => { results := [.lit (.bool false)], args := [d1, d2, d3] }
  | _ => none }
def ShareEscrowWrongFalsely : Prop := shareEscrowRow.holds Tryd.pinned (OpenSpec.ofChange shareEscrowWrong)

/-- 'moietylaw07.ShareSome': WHATEVER THE INPUT: true; the input reads as it did. -/
def shareSomeSpec : ChangeSpec := { name := "shareSome", fn := fun _ => fun
  | [d1, d2, d3] => { results := [.lit (.bool true)], args := [d1, d2, d3] }
  | _ => none }
def shareSomeRow : OpenClaim := { program := "ytbiobpmabomjfaadoor", sum := "b7d6796334f158bc29232c7113b30afd214a70920f9e4f5d07f6d4b91c9eead2", func := "moiety/moietylaw07.ShareSome", spec := "shareSome", inPlace := ["math.Float64frombits", "math.Float64bits", "slices.overlaps[moiety/api.Item]"], unfollowed := true, recurses := true, named := ["moiety/act.kinds"], apart := false, laid := [("moiety/act.kinds", laid_moiety_act_kinds)] }
def ShareSomeSaid : Prop := shareSomeRow.holds Tryd.pinned (OpenSpec.ofChange shareSomeSpec)

/-- ITS FALSE NEIGHBOUR: 'it returns false'. Refute it at one input. -/
def shareSomeWrong : ChangeSpec := { name := "shareSome", fn := fun _ => fun
  | [d1, d2, d3] => { results := [.lit (.bool false)], args := [d1, d2, d3] }
  | _ => none }
def ShareSomeWrongFalsely : Prop := shareSomeRow.holds Tryd.pinned (OpenSpec.ofChange shareSomeWrong)

/-- 'moietylaw07.ShareDraws': WHATEVER THE INPUT: true; the input reads as it did. -/
def shareDrawsSpec : ChangeSpec := { name := "shareDraws", fn := fun _ => fun
  | [d1, d2, d3] => { results := [.lit (.bool true)], args := [d1, d2, d3] }
  | _ => none }
def shareDrawsRow : OpenClaim := { program := "ytbiobpmabomjfaadoor", sum := "b7d6796334f158bc29232c7113b30afd214a70920f9e4f5d07f6d4b91c9eead2", func := "moiety/moietylaw07.ShareDraws", spec := "shareDraws", inPlace := ["math.Float64frombits", "math.Float64bits", "slices.overlaps[moiety/api.Item]"], unfollowed := true, recurses := true, named := ["moiety/act.kinds"], apart := false, laid := [("moiety/act.kinds", laid_moiety_act_kinds)] }
def ShareDrawsSaid : Prop := shareDrawsRow.holds Tryd.pinned (OpenSpec.ofChange shareDrawsSpec)

/-- ITS FALSE NEIGHBOUR: 'it returns false'. Refute it at one input. -/
def shareDrawsWrong : ChangeSpec := { name := "shareDraws", fn := fun _ => fun
  | [d1, d2, d3] => { results := [.lit (.bool false)], args := [d1, d2, d3] }
  | _ => none }
def ShareDrawsWrongFalsely : Prop := shareDrawsRow.holds Tryd.pinned (OpenSpec.ofChange shareDrawsWrong)

/- THE SECOND FORM. 'bulk': how many values and letters a reading holds, each counted each time it is reached (what is shared counts as often as it is met; a slice's spare places count too). A statement '..UptoSaid' is the law's where the arguments, and the package variables that the reading takes, are together of bulk at most 1048576: NARROWER than '..Said'. Prove '..Said' where nothing that the law and all that it calls make is longer than what came in: it says more and counts as full. Else prove '..UptoSaid'. A law counts once. -/
mutual
def uptoBulk {H : Type} : DataW H → Nat
  | .lit (.string bytes) => bytes.length + 1
  | .lit _ => 1
  | .nil => 1
  | .ptr d => uptoBulk d + 1
  | .slice elems spare => uptoBulkAll elems + uptoBulkAll spare + 1
  | .agg parts => uptoBulkAll parts + 1
  | .iface _ d => uptoBulk d + 1
  | .map entries => uptoBulkEntries entries + 1
  | .held _ => 1
def uptoBulkAll {H : Type} : List (DataW H) → Nat
  | [] => 0
  | d :: r => uptoBulk d + uptoBulkAll r
def uptoBulkEntries {H : Type} : List (Lit × DataW H) → Nat
  | [] => 0
  | x :: r => uptoBulkEntry x + uptoBulkEntries r
def uptoBulkEntry {H : Type} : Lit × DataW H → Nat
  | (.string bytes, d) => bytes.length + uptoBulk d + 1
  | (_, d) => uptoBulk d + 1
 end
def uptoSmall : (H : Type) → List (DataW H) → Bool := fun _ ds => decide (uptoBulkAll ds ≤ 1048576)
def OpenSpec.upto (s : _root_.Go.ChangeSpec) : _root_.Go.OpenSpec := { _root_.Go.OpenSpec.ofChange s with cond := some uptoSmall }

/-- 'moietylaw07.ShareSlices', WHERE WHAT IT READS IS OF BULK AT MOST 1048576: true; the input reads as it did. -/
def shareSlicesUptoRow : OpenClaim := { program := "ytbiobpmabomjfaadoor", sum := "b7d6796334f158bc29232c7113b30afd214a70920f9e4f5d07f6d4b91c9eead2", func := "moiety/moietylaw07.ShareSlices", spec := "shareSlices", inPlace := ["math.Float64frombits", "math.Float64bits", "slices.overlaps[moiety/api.Item]"], unfollowed := true, recurses := true, named := ["moiety/act.kinds"], apart := false, laid := [("moiety/act.kinds", laid_moiety_act_kinds)], narrowed := true }
def ShareSlicesUptoSaid : Prop := shareSlicesUptoRow.holds Tryd.pinned (OpenSpec.upto shareSlicesSpec)

/-- 'moietylaw07.ShareMerges', WHERE WHAT IT READS IS OF BULK AT MOST 1048576: true; the input reads as it did. -/
def shareMergesUptoRow : OpenClaim := { program := "ytbiobpmabomjfaadoor", sum := "b7d6796334f158bc29232c7113b30afd214a70920f9e4f5d07f6d4b91c9eead2", func := "moiety/moietylaw07.ShareMerges", spec := "shareMerges", inPlace := ["math.Float64frombits", "math.Float64bits", "slices.overlaps[moiety/api.Item]"], unfollowed := true, recurses := true, named := ["moiety/act.kinds"], apart := false, laid := [("moiety/act.kinds", laid_moiety_act_kinds)], narrowed := true }
def ShareMergesUptoSaid : Prop := shareMergesUptoRow.holds Tryd.pinned (OpenSpec.upto shareMergesSpec)

/-- 'moietylaw07.ShareEscrow', WHERE WHAT IT READS IS OF BULK AT MOST 1048576: true; the input reads as it did. -/
def shareEscrowUptoRow : OpenClaim := { program := "ytbiobpmabomjfaadoor", sum := "b7d6796334f158bc29232c7113b30afd214a70920f9e4f5d07f6d4b91c9eead2", func := "moiety/moietylaw07.ShareEscrow", spec := "shareEscrow", inPlace := ["math.Float64frombits", "math.Float64bits", "slices.overlaps[moiety/api.Item]"], unfollowed := true, recurses := true, named := ["moiety/act.kinds"], apart := false, laid := [("moiety/act.kinds", laid_moiety_act_kinds)], narrowed := true }
def ShareEscrowUptoSaid : Prop := shareEscrowUptoRow.holds Tryd.pinned (OpenSpec.upto shareEscrowSpec)

/-- 'moietylaw07.ShareSome', WHERE WHAT IT READS IS OF BULK AT MOST 1048576: true; the input reads as it did. -/
def shareSomeUptoRow : OpenClaim := { program := "ytbiobpmabomjfaadoor", sum := "b7d6796334f158bc29232c7113b30afd214a70920f9e4f5d07f6d4b91c9eead2", func := "moiety/moietylaw07.ShareSome", spec := "shareSome", inPlace := ["math.Float64frombits", "math.Float64bits", "slices.overlaps[moiety/api.Item]"], unfollowed := true, recurses := true, named := ["moiety/act.kinds"], apart := false, laid := [("moiety/act.kinds", laid_moiety_act_kinds)], narrowed := true }
def ShareSomeUptoSaid : Prop := shareSomeUptoRow.holds Tryd.pinned (OpenSpec.upto shareSomeSpec)

/-- 'moietylaw07.ShareDraws', WHERE WHAT IT READS IS OF BULK AT MOST 1048576: true; the input reads as it did. -/
def shareDrawsUptoRow : OpenClaim := { program := "ytbiobpmabomjfaadoor", sum := "b7d6796334f158bc29232c7113b30afd214a70920f9e4f5d07f6d4b91c9eead2", func := "moiety/moietylaw07.ShareDraws", spec := "shareDraws", inPlace := ["math.Float64frombits", "math.Float64bits", "slices.overlaps[moiety/api.Item]"], unfollowed := true, recurses := true, named := ["moiety/act.kinds"], apart := false, laid := [("moiety/act.kinds", laid_moiety_act_kinds)], narrowed := true }
def ShareDrawsUptoSaid : Prop := shareDrawsUptoRow.holds Tryd.pinned (OpenSpec.upto shareDrawsSpec)

end Rows
end Go.Proofs.YtbiobpmabomjfaaDoor
