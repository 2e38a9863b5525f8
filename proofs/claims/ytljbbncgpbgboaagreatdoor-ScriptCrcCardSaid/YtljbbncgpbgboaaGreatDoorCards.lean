/-
  DERIVED. GIVEN WITH THE SEED: THE CARDS: each row of YtljbbncgpbgboaaGreatDoorRows.lean that lists a variable, with what it lists TIED to the program's text (the seventh form; the later family's looks); each row that meets fmt, with fmt's text TOLD by the authors' own Lean function (tested against real Go, not proved from fmt's source: count such statements apart). THE CARD IS WHAT COUNTS. Prove the row's statement (the work); the ties are given (YtljbbncgpbgboaaGreatDoorTie.lean); close each card by the builder's one call (the guide's Derived/Test/ToyasCard.lean, 'card_holds'). Laid BY PROGRAM, IN A SANDBOX (cutbox-door.mjs). By AI agents, Wed Nov 11 2026. No macro, syntax, notation, axiom, sorry.
-/
import Derived.Test.YtljbbncgpbgboaaGreatDoorRows
import GoSem.ClaimSeven
namespace Go.Proofs.YtljbbncgpbgboaaGreatDoor
namespace Rows

/-- THE TIED CARD OF 'gimletlaw31.ScriptCrc'. -/
def scriptCrcCard : Claim7 := { stood := { row := scriptCrcRow, standIns := [], harness := (true, "aecb66bd3c5db44789c5502ec54db33fcc48b515c9c720bc12b82832cd2838f5"), looks := false }, kinds := [], alts := [], laidByText := true, laidKinds := [.data, .data, .data], laidTests := true, laidLooks := .later }
def ScriptCrcCardSaid : Prop := Claim7.holds Tryz.pinned (.plain (OpenSpec.ofChange scriptCrcSpec)) scriptCrcCard

/-- THE SECOND FORM's CARD OF 'gimletlaw31.ScriptCrc'. -/
def scriptCrcUptoCard : Claim7 := { stood := { row := scriptCrcUptoRow, standIns := [], harness := (true, "aecb66bd3c5db44789c5502ec54db33fcc48b515c9c720bc12b82832cd2838f5"), looks := false }, kinds := [], alts := [], laidByText := true, laidKinds := [.data, .data, .data], laidTests := true, laidLooks := .later }
def ScriptCrcUptoCardSaid : Prop := Claim7.holds Tryz.pinned (.plain (OpenSpec.upto scriptCrcSpec)) scriptCrcUptoCard
end Rows
end Go.Proofs.YtljbbncgpbgboaaGreatDoor
