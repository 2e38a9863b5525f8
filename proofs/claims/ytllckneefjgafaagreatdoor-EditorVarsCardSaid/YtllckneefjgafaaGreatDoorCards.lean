/-
  DERIVED. GIVEN WITH THE SEED: THE CARDS: each row of YtllckneefjgafaaGreatDoorRows.lean that lists a variable, with what it lists TIED to the program's text (the seventh form; the later family's looks); each row that meets fmt, with fmt's text TOLD by the authors' own Lean function (tested against real Go, not proved from fmt's source: count such statements apart). THE CARD IS WHAT COUNTS. Prove the row's statement (the work); the ties are given (YtllckneefjgafaaGreatDoorTie.lean); close each card by the builder's one call (the guide's Derived/Test/ToyasCard.lean, 'card_holds'). Laid BY PROGRAM, IN A SANDBOX (cutbox-door.mjs). By AI agents, Wed Nov 11 2026. No macro, syntax, notation, axiom, sorry.
-/
import Derived.Test.YtllckneefjgafaaGreatDoorRows
import GoSem.ClaimSeven
namespace Go.Proofs.YtllckneefjgafaaGreatDoor
namespace Rows

/-- THE TIED CARD OF 'gimletlaw30.EditorVars'. -/
def editorVarsCard : Claim7 := { stood := { row := editorVarsRow, standIns := [], harness := (true, "76d548e9ed13c237e344a48146da0094f7dd67c65a65fc58ced2c350e528f81d"), looks := false }, kinds := [], alts := [], laidByText := true, laidKinds := [.data, .data, .data], laidTests := true, laidLooks := .later }
def EditorVarsCardSaid : Prop := Claim7.holds Tryz.pinned (.plain (OpenSpec.ofChange editorVarsSpec)) editorVarsCard

/-- THE SECOND FORM's CARD OF 'gimletlaw30.EditorVars'. -/
def editorVarsUptoCard : Claim7 := { stood := { row := editorVarsUptoRow, standIns := [], harness := (true, "76d548e9ed13c237e344a48146da0094f7dd67c65a65fc58ced2c350e528f81d"), looks := false }, kinds := [], alts := [], laidByText := true, laidKinds := [.data, .data, .data], laidTests := true, laidLooks := .later }
def EditorVarsUptoCardSaid : Prop := Claim7.holds Tryz.pinned (.plain (OpenSpec.upto editorVarsSpec)) editorVarsUptoCard
end Rows
end Go.Proofs.YtllckneefjgafaaGreatDoor
