/-
  NARROWER THAN 'FOR EVERY INPUT', by the rows' own cells (each row's printed sentence says how): WholeLog: laid.
  DERIVED. THE GIVEN ROWS OF THIS SEAT. 1 by the template 'for every input the law returns true; each argument reads behind the call as it read before'; 0 by the template 'total and deterministic' (their statements: YtajhikgoibmpcaaGreatDoorTotals.lean).
  GIVEN WITH THE SEED: the statements are not yours to turn. If you find one false, say at which input.
  Laid BY PROGRAM, IN A SANDBOX (cutbox-rows.mjs): the forced cells as the released guide's own fill.sh prints them over the translation 4fe6f39198a20c50… (all of the seat's roots in one cut). By AI agents, Wed Nov 11 2026. No macro, syntax, notation, axiom, sorry.
-/
import Derived.Test.YtajhikgoibmpcaaGreatDoorChecked
import GoSem.Claim
import GoSem.ClaimJoined
import GoSem.ClaimMapViews
import Derived.JoinedTies
import Derived.KernelRfl
namespace Go.Proofs.YtajhikgoibmpcaaGreatDoor
/- THE CELL 'sum', in the pinned program and in every row, IS THE sha256 OF THE DUMP (.gsa) THAT YtajhikgoibmpcaaGreatDoorProg.lean LOADS. Nothing in Lean hashes anything: it is a label: what it is worth is what the hold of that sum in a sandbox is worth. -/
noncomputable def Tryz.pinned : Pinned := { name := "ytajhikgoibmpcaagreatdoor", sum := "4fe6f39198a20c50d51a1f710b532bd22a7886c4032557ac974690cfd2542b15", checked := Tryz.checked }
namespace Rows
def none {H : Type} : Left H := { results := [], args := [] }

/- WHAT THE LISTED PACKAGE-LEVEL VARIABLES READ AS WHEN THE CALL BEGINS. Each datum BY PROGRAM (the guide's laid-datum.mjs) off the statement by which the dump's own 'gosem.cut.vars' lays the variable. In a bare row this is a premise. The card (YtajhikgoibmpcaaGreatDoorCards.lean) ties it to the program's text. -/
def laid_moiety_act_kinds {H : Type} : DataW H := .agg [.agg [.lit (.string []), .lit (.int .i64 0), .lit (.string [])], .agg [.lit (.string [110, 101, 119]), .lit (.int .i64 0), .lit (.string [109])], .agg [.lit (.string [100, 114, 111, 112]), .lit (.int .i64 0), .lit (.string [])], .agg [.lit (.string [105, 115]), .lit (.int .i64 0), .lit (.string [])], .agg [.lit (.string [108, 111, 111, 107]), .lit (.int .i64 0), .lit (.string [])], .agg [.lit (.string [112, 117, 116]), .lit (.int .i64 1), .lit (.string [115])], .agg [.lit (.string [115, 119, 97, 112]), .lit (.int .i64 1), .lit (.string [115])], .agg [.lit (.string [97, 100, 100]), .lit (.int .i64 2), .lit (.string [110])], .agg [.lit (.string [112, 108, 117, 115]), .lit (.int .i64 3), .lit (.string [110])], .agg [.lit (.string [114, 101, 97, 99, 104]), .lit (.int .i64 3), .lit (.string [110])], .agg [.lit (.string [105, 110]), .lit (.int .i64 4), .lit (.string [110])], .agg [.lit (.string [111, 117, 116]), .lit (.int .i64 4), .lit (.string [110])], .agg [.lit (.string [101, 110, 111, 117, 103, 104]), .lit (.int .i64 4), .lit (.string [110])], .agg [.lit (.string [114, 97, 105, 115, 101]), .lit (.int .i64 5), .lit (.string [120])], .agg [.lit (.string [108, 111, 119, 101, 114]), .lit (.int .i64 6), .lit (.string [120])], .agg [.lit (.string [115, 104, 105, 102, 116]), .lit (.int .i64 7), .lit (.string [120])], .agg [.lit (.string [115, 99, 97, 108, 101]), .lit (.int .i64 7), .lit (.string [120])], .agg [.lit (.string [102, 105, 120]), .lit (.int .i64 7), .lit (.string [120])], .agg [.lit (.string [106, 111, 105, 110]), .lit (.int .i64 8), .lit (.string [115])], .agg [.lit (.string [108, 101, 97, 118, 101]), .lit (.int .i64 8), .lit (.string [115])], .agg [.lit (.string [104, 97, 115]), .lit (.int .i64 8), .lit (.string [115])], .agg [.lit (.string [111, 102, 102, 101, 114]), .lit (.int .i64 9), .lit (.string [120, 115])]]

/-- 'moietytop.WholeLog': WHATEVER THE INPUT: true; the input reads as it did. -/
def wholeLogSpec : ChangeSpec := { name := "wholeLog", fn := fun _ => fun
  | [d1, d2, d3] => { results := [.lit (.bool true)], args := [d1, d2, d3] }
  | _ => none }
def wholeLogRow : OpenClaim := { program := "ytajhikgoibmpcaagreatdoor", sum := "4fe6f39198a20c50d51a1f710b532bd22a7886c4032557ac974690cfd2542b15", func := "moiety/moietytop.WholeLog", spec := "wholeLog", inPlace := ["math.Float64frombits", "math.Float64bits", "slices.overlaps[moiety/api.Item]"], unfollowed := true, recurses := true, named := ["moiety/act.kinds"], apart := false, laid := [("moiety/act.kinds", laid_moiety_act_kinds)] }
def WholeLogSaid : Prop := wholeLogRow.holds Tryz.pinned (OpenSpec.ofChange wholeLogSpec)

/-- ITS FALSE NEIGHBOUR: 'it returns false'. Refute it at one input. -/
def wholeLogWrong : ChangeSpec := { name := "wholeLog", fn := fun _ => fun
  | [d1, d2, d3] => { results := [.lit (.bool false)], args := [d1, d2, d3] }
  | _ => none }
def WholeLogWrongFalsely : Prop := wholeLogRow.holds Tryz.pinned (OpenSpec.ofChange wholeLogWrong)

/- THE SECOND FORM. 'bulk': how many values and letters a reading holds, each counted each time it is reached (what is shared counts as often as it is met; a slice's spare places count too). A statement '..UptoSaid' is the law's where the arguments, and the package variables that the reading takes, are together of bulk at most 1048576: NARROWER than '..Said'. Prove '..Said' where nothing that the law and all that it calls make is longer than what came in: it says more and counts as full. Else prove '..UptoSaid'. A law counts once. -/
mutual
def uptoBulk {H : Type} : DataW H → Nat
  | .lit (.string bytes) => bytes.length + 1
  | .lit _ => 1
  | .nil => 1
  | .ptr d => uptoBulk d + 1
  | .slice elems spare => uptoBulkAll elems + uptoBulkAll spare + 1
  | .agg parts => uptoBulkAll parts + 1
  | .iface _ d => uptoBulk d + 1
  | .map entries => uptoBulkEntries entries + 1
  | .held _ => 1
def uptoBulkAll {H : Type} : List (DataW H) → Nat
  | [] => 0
  | d :: r => uptoBulk d + uptoBulkAll r
def uptoBulkEntries {H : Type} : List (Lit × DataW H) → Nat
  | [] => 0
  | x :: r => uptoBulkEntry x + uptoBulkEntries r
def uptoBulkEntry {H : Type} : Lit × DataW H → Nat
  | (.string bytes, d) => bytes.length + uptoBulk d + 1
  | (_, d) => uptoBulk d + 1
 end
def uptoSmall : (H : Type) → List (DataW H) → Bool := fun _ ds => decide (uptoBulkAll ds ≤ 1048576)
def OpenSpec.upto (s : _root_.Go.ChangeSpec) : _root_.Go.OpenSpec := { _root_.Go.OpenSpec.ofChange s with cond := some uptoSmall }

/-- 'moietytop.WholeLog', WHERE WHAT IT READS IS OF BULK AT MOST 1048576: true; the input reads as it did. -/
def wholeLogUptoRow : OpenClaim := { program := "ytajhikgoibmpcaagreatdoor", sum := "4fe6f39198a20c50d51a1f710b532bd22a7886c4032557ac974690cfd2542b15", func := "moiety/moietytop.WholeLog", spec := "wholeLog", inPlace := ["math.Float64frombits", "math.Float64bits", "slices.overlaps[moiety/api.Item]"], unfollowed := true, recurses := true, named := ["moiety/act.kinds"], apart := false, laid := [("moiety/act.kinds", laid_moiety_act_kinds)], narrowed := true }
def WholeLogUptoSaid : Prop := wholeLogUptoRow.holds Tryz.pinned (OpenSpec.upto wholeLogSpec)

end Rows
end Go.Proofs.YtajhikgoibmpcaaGreatDoor
