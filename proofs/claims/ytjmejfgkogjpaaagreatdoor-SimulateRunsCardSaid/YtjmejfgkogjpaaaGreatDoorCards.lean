/-
  DERIVED. GIVEN WITH THE SEED: THE CARDS: each row of YtjmejfgkogjpaaaGreatDoorRows.lean that lists a variable, with what it lists TIED to the program's text (the seventh form; the later family's looks); each row that meets fmt, with fmt's text TOLD by the authors' own Lean function (tested against real Go, not proved from fmt's source: count such statements apart). THE CARD IS WHAT COUNTS. Prove the row's statement (the work); the ties are given (YtjmejfgkogjpaaaGreatDoorTie.lean); close each card by the builder's one call (the guide's Derived/Test/ToyasCard.lean, 'card_holds'). Laid BY PROGRAM, IN A SANDBOX (cutbox-door.mjs). By AI agents, Wed Nov 11 2026. No macro, syntax, notation, axiom, sorry.
-/
import Derived.Test.YtjmejfgkogjpaaaGreatDoorRows
import GoSem.ClaimSeven
namespace Go.Proofs.YtjmejfgkogjpaaaGreatDoor
namespace Rows

/-- THE TIED CARD OF 'roundtablelaw56.SimulateRuns'. -/
def simulateRunsCard : Claim7 := { stood := { row := simulateRunsRow, standIns := [], harness := (true, "c9585f1510753a240fa0614ec857a4357017c40de317b320e4ac885d07688391"), looks := false }, kinds := [], alts := [], laidByText := true, laidKinds := [.data, .data], laidTests := true, laidLooks := .later }
def SimulateRunsCardSaid : Prop := Claim7.holds Tryz.pinned (.plain (OpenSpec.ofChange simulateRunsSpec)) simulateRunsCard

/-- THE SECOND FORM's CARD OF 'roundtablelaw56.SimulateRuns'. -/
def simulateRunsUptoCard : Claim7 := { stood := { row := simulateRunsUptoRow, standIns := [], harness := (true, "c9585f1510753a240fa0614ec857a4357017c40de317b320e4ac885d07688391"), looks := false }, kinds := [], alts := [], laidByText := true, laidKinds := [.data, .data], laidTests := true, laidLooks := .later }
def SimulateRunsUptoCardSaid : Prop := Claim7.holds Tryz.pinned (.plain (OpenSpec.upto simulateRunsSpec)) simulateRunsUptoCard
end Rows
end Go.Proofs.YtjmejfgkogjpaaaGreatDoor
