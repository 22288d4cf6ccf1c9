/-
  DERIVED. GIVEN WITH THE SEED: THE CARDS: each row of YtmeaoneaephjeaaGreatDoorRows.lean that lists a variable, with what it lists TIED to the program's text (the seventh form; the later family's looks); each row that meets fmt, with fmt's text TOLD by the authors' own Lean function (tested against real Go, not proved from fmt's source: count such statements apart). THE CARD IS WHAT COUNTS. Prove the row's statement (the work); the ties are given (YtmeaoneaephjeaaGreatDoorTie.lean); close each card by the builder's one call (the guide's Derived/Test/ToyasCard.lean, 'card_holds'). Laid BY PROGRAM, IN A SANDBOX (cutbox-door.mjs). By AI agents, Wed Nov 11 2026. No macro, syntax, notation, axiom, sorry.
-/
import Derived.Test.YtmeaoneaephjeaaGreatDoorRows
import GoSem.ClaimSeven
namespace Go.Proofs.YtmeaoneaephjeaaGreatDoor
namespace Rows

/-- THE TIED CARD OF 'roundtablelaw47.WalkValues'. -/
def walkValuesCard : Claim7 := { stood := { row := walkValuesRow, standIns := [], harness := (true, "24f7b2c70dce3fe0492067be1984e75ac750d01dee45b74d1a3d89d7a93bbdbd"), looks := false }, kinds := [], alts := [], laidByText := true, laidKinds := [.data, .data], laidTests := true, laidLooks := .later }
def WalkValuesCardSaid : Prop := Claim7.holds Tryz.pinned (.plain (OpenSpec.ofChange walkValuesSpec)) walkValuesCard

/-- THE TIED CARD OF 'roundtablelaw47.WalkFinds'. -/
def walkFindsCard : Claim7 := { stood := { row := walkFindsRow, standIns := [], harness := (true, "24f7b2c70dce3fe0492067be1984e75ac750d01dee45b74d1a3d89d7a93bbdbd"), looks := false }, kinds := [], alts := [], laidByText := true, laidKinds := [.data, .data], laidTests := true, laidLooks := .later }
def WalkFindsCardSaid : Prop := Claim7.holds Tryz.pinned (.plain (OpenSpec.ofChange walkFindsSpec)) walkFindsCard

/-- THE TIED CARD OF 'roundtablelaw47.WalkVerifies'. -/
def walkVerifiesCard : Claim7 := { stood := { row := walkVerifiesRow, standIns := [], harness := (true, "24f7b2c70dce3fe0492067be1984e75ac750d01dee45b74d1a3d89d7a93bbdbd"), looks := false }, kinds := [], alts := [], laidByText := true, laidKinds := [.data, .data], laidTests := true, laidLooks := .later }
def WalkVerifiesCardSaid : Prop := Claim7.holds Tryz.pinned (.plain (OpenSpec.ofChange walkVerifiesSpec)) walkVerifiesCard

/-- THE TIED CARD OF 'roundtablelaw47.WalkTurns'. -/
def walkTurnsCard : Claim7 := { stood := { row := walkTurnsRow, standIns := [], harness := (true, "24f7b2c70dce3fe0492067be1984e75ac750d01dee45b74d1a3d89d7a93bbdbd"), looks := false }, kinds := [], alts := [], laidByText := true, laidKinds := [.data, .data], laidTests := true, laidLooks := .later }
def WalkTurnsCardSaid : Prop := Claim7.holds Tryz.pinned (.plain (OpenSpec.ofChange walkTurnsSpec)) walkTurnsCard

/-- THE TIED CARD OF 'roundtablelaw47.WalkShortens'. -/
def walkShortensCard : Claim7 := { stood := { row := walkShortensRow, standIns := [], harness := (true, "24f7b2c70dce3fe0492067be1984e75ac750d01dee45b74d1a3d89d7a93bbdbd"), looks := false }, kinds := [], alts := [], laidByText := true, laidKinds := [.data, .data], laidTests := true, laidLooks := .later }
def WalkShortensCardSaid : Prop := Claim7.holds Tryz.pinned (.plain (OpenSpec.ofChange walkShortensSpec)) walkShortensCard

/-- THE TIED CARD OF 'roundtablelaw47.WalkExcludes'. -/
def walkExcludesCard : Claim7 := { stood := { row := walkExcludesRow, standIns := [], harness := (true, "24f7b2c70dce3fe0492067be1984e75ac750d01dee45b74d1a3d89d7a93bbdbd"), looks := false }, kinds := [], alts := [], laidByText := true, laidKinds := [.data, .data], laidTests := true, laidLooks := .later }
def WalkExcludesCardSaid : Prop := Claim7.holds Tryz.pinned (.plain (OpenSpec.ofChange walkExcludesSpec)) walkExcludesCard

/-- THE SECOND FORM's CARD OF 'roundtablelaw47.WalkValues'. -/
def walkValuesUptoCard : Claim7 := { stood := { row := walkValuesUptoRow, standIns := [], harness := (true, "24f7b2c70dce3fe0492067be1984e75ac750d01dee45b74d1a3d89d7a93bbdbd"), looks := false }, kinds := [], alts := [], laidByText := true, laidKinds := [.data, .data], laidTests := true, laidLooks := .later }
def WalkValuesUptoCardSaid : Prop := Claim7.holds Tryz.pinned (.plain (OpenSpec.upto walkValuesSpec)) walkValuesUptoCard

/-- THE SECOND FORM's CARD OF 'roundtablelaw47.WalkFinds'. -/
def walkFindsUptoCard : Claim7 := { stood := { row := walkFindsUptoRow, standIns := [], harness := (true, "24f7b2c70dce3fe0492067be1984e75ac750d01dee45b74d1a3d89d7a93bbdbd"), looks := false }, kinds := [], alts := [], laidByText := true, laidKinds := [.data, .data], laidTests := true, laidLooks := .later }
def WalkFindsUptoCardSaid : Prop := Claim7.holds Tryz.pinned (.plain (OpenSpec.upto walkFindsSpec)) walkFindsUptoCard

/-- THE SECOND FORM's CARD OF 'roundtablelaw47.WalkVerifies'. -/
def walkVerifiesUptoCard : Claim7 := { stood := { row := walkVerifiesUptoRow, standIns := [], harness := (true, "24f7b2c70dce3fe0492067be1984e75ac750d01dee45b74d1a3d89d7a93bbdbd"), looks := false }, kinds := [], alts := [], laidByText := true, laidKinds := [.data, .data], laidTests := true, laidLooks := .later }
def WalkVerifiesUptoCardSaid : Prop := Claim7.holds Tryz.pinned (.plain (OpenSpec.upto walkVerifiesSpec)) walkVerifiesUptoCard

/-- THE SECOND FORM's CARD OF 'roundtablelaw47.WalkTurns'. -/
def walkTurnsUptoCard : Claim7 := { stood := { row := walkTurnsUptoRow, standIns := [], harness := (true, "24f7b2c70dce3fe0492067be1984e75ac750d01dee45b74d1a3d89d7a93bbdbd"), looks := false }, kinds := [], alts := [], laidByText := true, laidKinds := [.data, .data], laidTests := true, laidLooks := .later }
def WalkTurnsUptoCardSaid : Prop := Claim7.holds Tryz.pinned (.plain (OpenSpec.upto walkTurnsSpec)) walkTurnsUptoCard

/-- THE SECOND FORM's CARD OF 'roundtablelaw47.WalkShortens'. -/
def walkShortensUptoCard : Claim7 := { stood := { row := walkShortensUptoRow, standIns := [], harness := (true, "24f7b2c70dce3fe0492067be1984e75ac750d01dee45b74d1a3d89d7a93bbdbd"), looks := false }, kinds := [], alts := [], laidByText := true, laidKinds := [.data, .data], laidTests := true, laidLooks := .later }
def WalkShortensUptoCardSaid : Prop := Claim7.holds Tryz.pinned (.plain (OpenSpec.upto walkShortensSpec)) walkShortensUptoCard

/-- THE SECOND FORM's CARD OF 'roundtablelaw47.WalkExcludes'. -/
def walkExcludesUptoCard : Claim7 := { stood := { row := walkExcludesUptoRow, standIns := [], harness := (true, "24f7b2c70dce3fe0492067be1984e75ac750d01dee45b74d1a3d89d7a93bbdbd"), looks := false }, kinds := [], alts := [], laidByText := true, laidKinds := [.data, .data], laidTests := true, laidLooks := .later }
def WalkExcludesUptoCardSaid : Prop := Claim7.holds Tryz.pinned (.plain (OpenSpec.upto walkExcludesSpec)) walkExcludesUptoCard
end Rows
end Go.Proofs.YtmeaoneaephjeaaGreatDoor
