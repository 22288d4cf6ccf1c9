/-
  DERIVED. GIVEN WITH THE SEED: THE CARDS: each row of YtlfnfphkhokdiaaDoorRows.lean that lists a variable, with what it lists TIED to the program's text (the seventh form; the later family's looks); each row that meets fmt, with fmt's text TOLD by the authors' own Lean function (tested against real Go, not proved from fmt's source: count such statements apart). THE CARD IS WHAT COUNTS. Prove the row's statement (the work); the ties are given (YtlfnfphkhokdiaaDoorTie.lean); close each card by the builder's one call (the guide's Derived/Test/ToyasCard.lean, 'card_holds'). Laid BY PROGRAM, IN A SANDBOX (cutbox-door.mjs). By AI agents, Wed Nov 11 2026. No macro, syntax, notation, axiom, sorry.
-/
import Derived.Test.YtlfnfphkhokdiaaDoorRows
import GoSem.ClaimSeven
namespace Go.Proofs.YtlfnfphkhokdiaaDoor
namespace Rows

/-- THE TIED CARD OF 'roundtablelaw57.MonitorNames'. -/
def monitorNamesCard : Claim7 := { stood := { row := monitorNamesRow, standIns := [], harness := (true, "978f27fa4a84ebc9b7a5bd8bb30198b5cc8a38365ba3f9338673a4639cea0d0e"), looks := false }, kinds := [], alts := [], laidByText := true, laidKinds := [.data], laidTests := true, laidLooks := .later }
def MonitorNamesCardSaid : Prop := Claim7.holds Tryd.pinned (.plain (OpenSpec.ofChange monitorNamesSpec)) monitorNamesCard

/-- THE SECOND FORM's CARD OF 'roundtablelaw57.MonitorNames'. -/
def monitorNamesUptoCard : Claim7 := { stood := { row := monitorNamesUptoRow, standIns := [], harness := (true, "978f27fa4a84ebc9b7a5bd8bb30198b5cc8a38365ba3f9338673a4639cea0d0e"), looks := false }, kinds := [], alts := [], laidByText := true, laidKinds := [.data], laidTests := true, laidLooks := .later }
def MonitorNamesUptoCardSaid : Prop := Claim7.holds Tryd.pinned (.plain (OpenSpec.upto monitorNamesSpec)) monitorNamesUptoCard
end Rows
end Go.Proofs.YtlfnfphkhokdiaaDoor
