/-
  NARROWER THAN 'FOR EVERY INPUT', by the rows' own cells (each row's printed sentence says how): MonitorNames: laid.
  DERIVED. THE GIVEN ROWS OF THIS SEAT. 1 by the template 'for every input the law returns true; each argument reads behind the call as it read before'; 0 by the template 'total and deterministic' (their statements: YtlfnfphkhokdiaaDoorTotals.lean).
  GIVEN WITH THE SEED: the statements are not yours to turn. If you find one false, say at which input.
  Laid BY PROGRAM, IN A SANDBOX (cutbox-rows.mjs): the forced cells as the released guide's own fill.sh prints them over the translation 97c630db49f0c4d2… (all of the seat's roots in one cut). By AI agents, Wed Nov 11 2026. No macro, syntax, notation, axiom, sorry.
-/
import Derived.Test.YtlfnfphkhokdiaaDoorChecked
import GoSem.Claim
import GoSem.ClaimJoined
import GoSem.ClaimMapViews
import Derived.JoinedTies
import Derived.KernelRfl
namespace Go.Proofs.YtlfnfphkhokdiaaDoor
/- THE CELL 'sum', in the pinned program and in every row, IS THE sha256 OF THE DUMP (.gsa) THAT YtlfnfphkhokdiaaDoorProg.lean LOADS. Nothing in Lean hashes anything: it is a label: what it is worth is what the hold of that sum in a sandbox is worth. -/
noncomputable def Tryd.pinned : Pinned := { name := "ytlfnfphkhokdiaadoor", sum := "97c630db49f0c4d22ad164105b35b9224d90ae641b52bc2b49db3a0f1611cd92", checked := Tryd.checked }
namespace Rows
def none {H : Type} : Left H := { results := [], args := [] }

/- WHAT THE LISTED PACKAGE-LEVEL VARIABLES READ AS WHEN THE CALL BEGINS. Each datum BY PROGRAM (the guide's laid-datum.mjs) off the statement by which the dump's own 'gosem.cut.vars' lays the variable. In a bare row this is a premise. The card (YtlfnfphkhokdiaaDoorCards.lean) ties it to the program's text. -/
def laid_roundtable_monitor_words {H : Type} : DataW H := .agg [.lit (.string [110, 111, 110, 101]), .lit (.string [115, 99, 104, 101, 100, 117, 108, 101]), .lit (.string [117, 110, 100, 101, 99, 105, 100, 101, 100]), .lit (.string [111, 117, 116, 112, 117, 116]), .lit (.string [116, 114, 97, 99, 101])]

/-- 'roundtablelaw57.MonitorNames': WHATEVER THE INPUT: true; the input reads as it did. -/
def monitorNamesSpec : ChangeSpec := { name := "monitorNames", fn := fun _ => fun
  | [d1, d2] => { results := [.lit (.bool true)], args := [d1, d2] }
  | _ => none }
def monitorNamesRow : OpenClaim := { program := "ytlfnfphkhokdiaadoor", sum := "97c630db49f0c4d22ad164105b35b9224d90ae641b52bc2b49db3a0f1611cd92", func := "roundtable/roundtablelaw57.MonitorNames", spec := "monitorNames", unfollowed := true, recurses := true, named := ["roundtable/monitor.words"], plainKeys := false, apart := false, laid := [("roundtable/monitor.words", laid_roundtable_monitor_words)] }
def MonitorNamesSaid : Prop := monitorNamesRow.holds Tryd.pinned (OpenSpec.ofChange monitorNamesSpec)

/-- ITS FALSE NEIGHBOUR: 'it returns false'. Refute it at one input. -/
def monitorNamesWrong : ChangeSpec := { name := "monitorNames", fn := fun _ => fun
  | [d1, d2] => { results := [.lit (.bool false)], args := [d1, d2] }
  | _ => none }
def MonitorNamesWrongFalsely : Prop := monitorNamesRow.holds Tryd.pinned (OpenSpec.ofChange monitorNamesWrong)

/- THE SECOND FORM. 'bulk': how many values and letters a reading holds, each counted each time it is reached (what is shared counts as often as it is met; a slice's spare places count too). A statement '..UptoSaid' is the law's where the arguments, and the package variables that the reading takes, are together of bulk at most 1048576: NARROWER than '..Said'. Prove '..Said' where nothing that the law and all that it calls make is longer than what came in: it says more and counts as full. Else prove '..UptoSaid'. A law counts once. -/
mutual
def uptoBulk {H : Type} : DataW H → Nat
  | .lit (.string bytes) => bytes.length + 1
  | .lit _ => 1
  | .nil => 1
  | .ptr d => uptoBulk d + 1
  | .slice elems spare => uptoBulkAll elems + uptoBulkAll spare + 1
  | .agg parts => uptoBulkAll parts + 1
  | .iface _ d => uptoBulk d + 1
  | .map entries => uptoBulkEntries entries + 1
  | .held _ => 1
def uptoBulkAll {H : Type} : List (DataW H) → Nat
  | [] => 0
  | d :: r => uptoBulk d + uptoBulkAll r
def uptoBulkEntries {H : Type} : List (Lit × DataW H) → Nat
  | [] => 0
  | x :: r => uptoBulkEntry x + uptoBulkEntries r
def uptoBulkEntry {H : Type} : Lit × DataW H → Nat
  | (.string bytes, d) => bytes.length + uptoBulk d + 1
  | (_, d) => uptoBulk d + 1
 end
def uptoSmall : (H : Type) → List (DataW H) → Bool := fun _ ds => decide (uptoBulkAll ds ≤ 1048576)
def OpenSpec.upto (s : _root_.Go.ChangeSpec) : _root_.Go.OpenSpec := { _root_.Go.OpenSpec.ofChange s with cond := some uptoSmall }

/-- 'roundtablelaw57.MonitorNames', WHERE WHAT IT READS IS OF BULK AT MOST 1048576: true; the input reads as it did. -/
def monitorNamesUptoRow : OpenClaim := { program := "ytlfnfphkhokdiaadoor", sum := "97c630db49f0c4d22ad164105b35b9224d90ae641b52bc2b49db3a0f1611cd92", func := "roundtable/roundtablelaw57.MonitorNames", spec := "monitorNames", unfollowed := true, recurses := true, named := ["roundtable/monitor.words"], plainKeys := false, apart := false, laid := [("roundtable/monitor.words", laid_roundtable_monitor_words)], narrowed := true }
def MonitorNamesUptoSaid : Prop := monitorNamesUptoRow.holds Tryd.pinned (OpenSpec.upto monitorNamesSpec)

end Rows
end Go.Proofs.YtlfnfphkhokdiaaDoor
