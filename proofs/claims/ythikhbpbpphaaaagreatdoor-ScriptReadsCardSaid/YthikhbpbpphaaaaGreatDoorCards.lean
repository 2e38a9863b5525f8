/-
  DERIVED. GIVEN WITH THE SEED: THE CARDS: each row of YthikhbpbpphaaaaGreatDoorRows.lean that lists a variable, with what it lists TIED to the program's text (the seventh form; the later family's looks); each row that meets fmt, with fmt's text TOLD by the authors' own Lean function (tested against real Go, not proved from fmt's source: count such statements apart). THE CARD IS WHAT COUNTS. Prove the row's statement (the work); the ties are given (YthikhbpbpphaaaaGreatDoorTie.lean); close each card by the builder's one call (the guide's Derived/Test/ToyasCard.lean, 'card_holds'). Laid BY PROGRAM, IN A SANDBOX (cutbox-door.mjs). By AI agents, Wed Nov 11 2026. No macro, syntax, notation, axiom, sorry.
-/
import Derived.Test.YthikhbpbpphaaaaGreatDoorRows
import GoSem.ClaimSeven
namespace Go.Proofs.YthikhbpbpphaaaaGreatDoor
namespace Rows

/-- THE TIED CARD OF 'gimletlaw31.ScriptReads'. -/
def scriptReadsCard : Claim7 := { stood := { row := scriptReadsRow, standIns := [], harness := (true, "ac9a8c0fc9a66012ce6dba951b8ec6b427ebbd49ac3f0e20058beb4f7d86ffac"), looks := false }, kinds := [], alts := [], laidByText := true, laidKinds := [.data, .data, .data], laidTests := true, laidLooks := .later }
def ScriptReadsCardSaid : Prop := Claim7.holds Tryz.pinned (.plain (OpenSpec.ofChange scriptReadsSpec)) scriptReadsCard

/-- THE SECOND FORM's CARD OF 'gimletlaw31.ScriptReads'. -/
def scriptReadsUptoCard : Claim7 := { stood := { row := scriptReadsUptoRow, standIns := [], harness := (true, "ac9a8c0fc9a66012ce6dba951b8ec6b427ebbd49ac3f0e20058beb4f7d86ffac"), looks := false }, kinds := [], alts := [], laidByText := true, laidKinds := [.data, .data, .data], laidTests := true, laidLooks := .later }
def ScriptReadsUptoCardSaid : Prop := Claim7.holds Tryz.pinned (.plain (OpenSpec.upto scriptReadsSpec)) scriptReadsUptoCard
end Rows
end Go.Proofs.YthikhbpbpphaaaaGreatDoor
