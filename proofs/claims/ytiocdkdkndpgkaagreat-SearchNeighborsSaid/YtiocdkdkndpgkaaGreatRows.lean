/-
  No cell of these rows narrows 'for every input' (looked for: loops, veiled, ifaces, maps, wideKeys, modest, calm, conditions, laid).
  DERIVED. THE GIVEN ROWS OF THIS SEAT. 6 by the template 'for every input the law returns true; each argument reads behind the call as it read before'; 0 by the template 'total and deterministic' (their statements: YtiocdkdkndpgkaaGreatTotals.lean).
  GIVEN WITH THE SEED: the statements are not yours to turn. If you find one false, say at which input.
  Laid BY PROGRAM, IN A SANDBOX (cutbox-rows.mjs): the forced cells as the released guide's own fill.sh prints them over the translation 6b371b4282201f00… (all of the seat's roots in one cut). By AI agents, Wed Nov 11 2026. No macro, syntax, notation, axiom, sorry.
-/
import Derived.Test.YtiocdkdkndpgkaaGreatChecked
import GoSem.Claim
import GoSem.ClaimJoined
import GoSem.ClaimMapViews
import Derived.JoinedTies
import Derived.KernelRfl
namespace Go.Proofs.YtiocdkdkndpgkaaGreat
/- THE CELL 'sum', in the pinned program and in every row, IS THE sha256 OF THE DUMP (.gsa) THAT YtiocdkdkndpgkaaGreatProg.lean LOADS. Nothing in Lean hashes anything: it is a label: what it is worth is what the hold of that sum in a sandbox is worth. -/
noncomputable def Tryz.pinned : Pinned := { name := "ytiocdkdkndpgkaagreat", sum := "6b371b4282201f009bec3df6519e4bef2d0312a24ddfb5948c62ca20326d08c9", checked := Tryz.checked }
namespace Rows
def none {H : Type} : Left H := { results := [], args := [] }

/-- 'roundtablelaw58.SearchWorst': WHATEVER THE INPUT: true; the input reads as it did. -/
def searchWorstSpec : ChangeSpec := { name := "searchWorst", fn := fun _ => fun
  | [d1, d2] => { results := [.lit (.bool true)], args := [d1, d2] }
  | _ => none }
def searchWorstRow : OpenClaim := { program := "ytiocdkdkndpgkaagreat", sum := "6b371b4282201f009bec3df6519e4bef2d0312a24ddfb5948c62ca20326d08c9", func := "roundtable/roundtablelaw58.SearchWorst", spec := "searchWorst", unfollowed := true, recurses := true, plainKeys := false, apart := false }
def SearchWorstSaid : Prop := searchWorstRow.holds Tryz.pinned (OpenSpec.ofChange searchWorstSpec)

/-- ITS FALSE NEIGHBOUR: 'it returns false'. Refute it at one input. -/
def searchWorstWrong : ChangeSpec := { name := "searchWorst", fn := fun _ => fun
  | [d1, d2] => { results := [.lit (.bool false)], args := [d1, d2] }
  | _ => none }
def SearchWorstWrongFalsely : Prop := searchWorstRow.holds Tryz.pinned (OpenSpec.ofChange searchWorstWrong)

/-- 'roundtablelaw58.SearchFinds': WHATEVER THE INPUT: true; the input reads as it did. -/
def searchFindsSpec : ChangeSpec := { name := "searchFinds", fn := fun _ => fun
  | [d1, d2] => { results := [.lit (.bool true)], args := [d1, d2] }
  | _ => none }
def searchFindsRow : OpenClaim := { program := "ytiocdkdkndpgkaagreat", sum := "6b371b4282201f009bec3df6519e4bef2d0312a24ddfb5948c62ca20326d08c9", func := "roundtable/roundtablelaw58.SearchFinds", spec := "searchFinds", unfollowed := true, recurses := true, plainKeys := false, apart := false }
def SearchFindsSaid : Prop := searchFindsRow.holds Tryz.pinned (OpenSpec.ofChange searchFindsSpec)

/-- ITS FALSE NEIGHBOUR: 'it returns false'. Refute it at one input. -/
def searchFindsWrong : ChangeSpec := { name := "searchFinds", fn := fun _ => fun
  | [d1, d2] => { results := [.lit (.bool false)], args := [d1, d2] }
  | _ => none }
def SearchFindsWrongFalsely : Prop := searchFindsRow.holds Tryz.pinned (OpenSpec.ofChange searchFindsWrong)

/-- 'roundtablelaw58.SearchNeighbors': WHATEVER THE INPUT: true; the input reads as it did. -/
def searchNeighborsSpec : ChangeSpec := { name := "searchNeighbors", fn := fun _ => fun
  | [d1, d2] => { results := [.lit (.bool true)], args := [d1, d2] }
  | _ => none }
def searchNeighborsRow : OpenClaim := { program := "ytiocdkdkndpgkaagreat", sum := "6b371b4282201f009bec3df6519e4bef2d0312a24ddfb5948c62ca20326d08c9", func := "roundtable/roundtablelaw58.SearchNeighbors", spec := "searchNeighbors", unfollowed := true, recurses := true, plainKeys := false, apart := false }
def SearchNeighborsSaid : Prop := searchNeighborsRow.holds Tryz.pinned (OpenSpec.ofChange searchNeighborsSpec)

/-- ITS FALSE NEIGHBOUR: 'it returns false'. Refute it at one input. -/
def searchNeighborsWrong : ChangeSpec := { name := "searchNeighbors", fn := fun _ => fun
  | [d1, d2] => { results := [.lit (.bool false)], args := [d1, d2] }
  | _ => none }
def SearchNeighborsWrongFalsely : Prop := searchNeighborsRow.holds Tryz.pinned (OpenSpec.ofChange searchNeighborsWrong)

/-- 'roundtablelaw58.SearchShrinks': WHATEVER THE INPUT: true; the input reads as it did. -/
def searchShrinksSpec : ChangeSpec := { name := "searchShrinks", fn := fun _ => fun
  | [d1, d2, d3] => { results := [.lit (.bool true)], args := [d1, d2, d3] }
  | _ => none }
def searchShrinksRow : OpenClaim := { program := "ytiocdkdkndpgkaagreat", sum := "6b371b4282201f009bec3df6519e4bef2d0312a24ddfb5948c62ca20326d08c9", func := "roundtable/roundtablelaw58.SearchShrinks", spec := "searchShrinks", unfollowed := true, recurses := true, plainKeys := false, apart := false }
def SearchShrinksSaid : Prop := searchShrinksRow.holds Tryz.pinned (OpenSpec.ofChange searchShrinksSpec)

/-- ITS FALSE NEIGHBOUR: 'it returns false'. Refute it at one input. -/
def searchShrinksWrong : ChangeSpec := { name := "searchShrinks", fn := fun _ => fun
  | [d1, d2, d3] => { results := [.lit (.bool false)], args := [d1, d2, d3] }
  | _ => none }
def SearchShrinksWrongFalsely : Prop := searchShrinksRow.holds Tryz.pinned (OpenSpec.ofChange searchShrinksWrong)

/-- 'roundtablelaw58.SearchSafe': WHATEVER THE INPUT: true; the input reads as it did. -/
def searchSafeSpec : ChangeSpec := { name := "searchSafe", fn := fun _ => fun
  | [d1, d2, d3] => { results := [.lit (.bool true)], args := [d1, d2, d3] }
  | _ => none }
def searchSafeRow : OpenClaim := { program := "ytiocdkdkndpgkaagreat", sum := "6b371b4282201f009bec3df6519e4bef2d0312a24ddfb5948c62ca20326d08c9", func := "roundtable/roundtablelaw58.SearchSafe", spec := "searchSafe", unfollowed := true, recurses := true, plainKeys := false, apart := false }
def SearchSafeSaid : Prop := searchSafeRow.holds Tryz.pinned (OpenSpec.ofChange searchSafeSpec)

/-- ITS FALSE NEIGHBOUR: 'it returns false'. Refute it at one input. -/
def searchSafeWrong : ChangeSpec := { name := "searchSafe", fn := fun _ => fun
  | [d1, d2, d3] => { results := [.lit (.bool false)], args := [d1, d2, d3] }
  | _ => none }
def SearchSafeWrongFalsely : Prop := searchSafeRow.holds Tryz.pinned (OpenSpec.ofChange searchSafeWrong)

/-- 'roundtablelaw58.SearchBounds': WHATEVER THE INPUT: true; the input reads as it did. -/
def searchBoundsSpec : ChangeSpec := { name := "searchBounds", fn := fun _ => fun
  | [d1, d2, d3] => { results := [.lit (.bool true)], args := [d1, d2, d3] }
  | _ => none }
def searchBoundsRow : OpenClaim := { program := "ytiocdkdkndpgkaagreat", sum := "6b371b4282201f009bec3df6519e4bef2d0312a24ddfb5948c62ca20326d08c9", func := "roundtable/roundtablelaw58.SearchBounds", spec := "searchBounds", unfollowed := true, recurses := true, plainKeys := false, apart := false }
def SearchBoundsSaid : Prop := searchBoundsRow.holds Tryz.pinned (OpenSpec.ofChange searchBoundsSpec)

/-- ITS FALSE NEIGHBOUR: 'it returns false'. Refute it at one input. -/
def searchBoundsWrong : ChangeSpec := { name := "searchBounds", fn := fun _ => fun
  | [d1, d2, d3] => { results := [.lit (.bool false)], args := [d1, d2, d3] }
  | _ => none }
def SearchBoundsWrongFalsely : Prop := searchBoundsRow.holds Tryz.pinned (OpenSpec.ofChange searchBoundsWrong)

/- THE SECOND FORM. 'bulk': how many values and letters a reading holds, each counted each time it is reached (what is shared counts as often as it is met; a slice's spare places count too). A statement '..UptoSaid' is the law's where the arguments, and the package variables that the reading takes, are together of bulk at most 1048576: NARROWER than '..Said'. Prove '..Said' where nothing that the law and all that it calls make is longer than what came in: it says more and counts as full. Else prove '..UptoSaid'. A law counts once. -/
mutual
def uptoBulk {H : Type} : DataW H → Nat
  | .lit (.string bytes) => bytes.length + 1
  | .lit _ => 1
  | .nil => 1
  | .ptr d => uptoBulk d + 1
  | .slice elems spare => uptoBulkAll elems + uptoBulkAll spare + 1
  | .agg parts => uptoBulkAll parts + 1
  | .iface _ d => uptoBulk d + 1
  | .map entries => uptoBulkEntries entries + 1
  | .held _ => 1
def uptoBulkAll {H : Type} : List (DataW H) → Nat
  | [] => 0
  | d :: r => uptoBulk d + uptoBulkAll r
def uptoBulkEntries {H : Type} : List (Lit × DataW H) → Nat
  | [] => 0
  | x :: r => uptoBulkEntry x + uptoBulkEntries r
def uptoBulkEntry {H : Type} : Lit × DataW H → Nat
  | (.string bytes, d) => bytes.length + uptoBulk d + 1
  | (_, d) => uptoBulk d + 1
 end
def uptoSmall : (H : Type) → List (DataW H) → Bool := fun _ ds => decide (uptoBulkAll ds ≤ 1048576)
def OpenSpec.upto (s : _root_.Go.ChangeSpec) : _root_.Go.OpenSpec := { _root_.Go.OpenSpec.ofChange s with cond := some uptoSmall }

/-- 'roundtablelaw58.SearchWorst', WHERE WHAT IT READS IS OF BULK AT MOST 1048576: true; the input reads as it did. -/
def searchWorstUptoRow : OpenClaim := { program := "ytiocdkdkndpgkaagreat", sum := "6b371b4282201f009bec3df6519e4bef2d0312a24ddfb5948c62ca20326d08c9", func := "roundtable/roundtablelaw58.SearchWorst", spec := "searchWorst", unfollowed := true, recurses := true, plainKeys := false, apart := false, narrowed := true }
def SearchWorstUptoSaid : Prop := searchWorstUptoRow.holds Tryz.pinned (OpenSpec.upto searchWorstSpec)

/-- 'roundtablelaw58.SearchFinds', WHERE WHAT IT READS IS OF BULK AT MOST 1048576: true; the input reads as it did. -/
def searchFindsUptoRow : OpenClaim := { program := "ytiocdkdkndpgkaagreat", sum := "6b371b4282201f009bec3df6519e4bef2d0312a24ddfb5948c62ca20326d08c9", func := "roundtable/roundtablelaw58.SearchFinds", spec := "searchFinds", unfollowed := true, recurses := true, plainKeys := false, apart := false, narrowed := true }
def SearchFindsUptoSaid : Prop := searchFindsUptoRow.holds Tryz.pinned (OpenSpec.upto searchFindsSpec)

/-- 'roundtablelaw58.SearchNeighbors', WHERE WHAT IT READS IS OF BULK AT MOST 1048576: true; the input reads as it did. -/
def searchNeighborsUptoRow : OpenClaim := { program := "ytiocdkdkndpgkaagreat", sum := "6b371b4282201f009bec3df6519e4bef2d0312a24ddfb5948c62ca20326d08c9", func := "roundtable/roundtablelaw58.SearchNeighbors", spec := "searchNeighbors", unfollowed := true, recurses := true, plainKeys := false, apart := false, narrowed := true }
def SearchNeighborsUptoSaid : Prop := searchNeighborsUptoRow.holds Tryz.pinned (OpenSpec.upto searchNeighborsSpec)

/-- 'roundtablelaw58.SearchShrinks', WHERE WHAT IT READS IS OF BULK AT MOST 1048576: true; the input reads as it did. -/
def searchShrinksUptoRow : OpenClaim := { program := "ytiocdkdkndpgkaagreat", sum := "6b371b4282201f009bec3df6519e4bef2d0312a24ddfb5948c62ca20326d08c9", func := "roundtable/roundtablelaw58.SearchShrinks", spec := "searchShrinks", unfollowed := true, recurses := true, plainKeys := false, apart := false, narrowed := true }
def SearchShrinksUptoSaid : Prop := searchShrinksUptoRow.holds Tryz.pinned (OpenSpec.upto searchShrinksSpec)

/-- 'roundtablelaw58.SearchSafe', WHERE WHAT IT READS IS OF BULK AT MOST 1048576: true; the input reads as it did. -/
def searchSafeUptoRow : OpenClaim := { program := "ytiocdkdkndpgkaagreat", sum := "6b371b4282201f009bec3df6519e4bef2d0312a24ddfb5948c62ca20326d08c9", func := "roundtable/roundtablelaw58.SearchSafe", spec := "searchSafe", unfollowed := true, recurses := true, plainKeys := false, apart := false, narrowed := true }
def SearchSafeUptoSaid : Prop := searchSafeUptoRow.holds Tryz.pinned (OpenSpec.upto searchSafeSpec)

/-- 'roundtablelaw58.SearchBounds', WHERE WHAT IT READS IS OF BULK AT MOST 1048576: true; the input reads as it did. -/
def searchBoundsUptoRow : OpenClaim := { program := "ytiocdkdkndpgkaagreat", sum := "6b371b4282201f009bec3df6519e4bef2d0312a24ddfb5948c62ca20326d08c9", func := "roundtable/roundtablelaw58.SearchBounds", spec := "searchBounds", unfollowed := true, recurses := true, plainKeys := false, apart := false, narrowed := true }
def SearchBoundsUptoSaid : Prop := searchBoundsUptoRow.holds Tryz.pinned (OpenSpec.upto searchBoundsSpec)

end Rows
end Go.Proofs.YtiocdkdkndpgkaaGreat
