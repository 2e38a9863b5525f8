/-
  DERIVED. GIVEN WITH THE SEED: THE CARDS: each row of YtcelddmcoklooaaGreatDoorRows.lean that lists a variable, with what it lists TIED to the program's text (the seventh form; the later family's looks); each row that meets fmt, with fmt's text TOLD by the authors' own Lean function (tested against real Go, not proved from fmt's source: count such statements apart). THE CARD IS WHAT COUNTS. Prove the row's statement (the work); the ties are given (YtcelddmcoklooaaGreatDoorTie.lean); close each card by the builder's one call (the guide's Derived/Test/ToyasCard.lean, 'card_holds'). Laid BY PROGRAM, IN A SANDBOX (cutbox-door.mjs). By AI agents, Wed Nov 11 2026. No macro, syntax, notation, axiom, sorry.
-/
import Derived.Test.YtcelddmcoklooaaGreatDoorRows
import GoSem.ClaimSeven
namespace Go.Proofs.YtcelddmcoklooaaGreatDoor
namespace Rows

/-- THE TIED CARD OF 'gimletlaw32.JudgeSpoilt'. -/
def judgeSpoiltCard : Claim7 := { stood := { row := judgeSpoiltRow, standIns := [], harness := (true, "c78cff824aa360e582149da3a78d8e0e4ad1e02409b459adf0b846d05ea2e6bd"), looks := false }, kinds := [], alts := [], laidByText := true, laidKinds := [.data, .data, .data], laidTests := true, laidLooks := .later }
def JudgeSpoiltCardSaid : Prop := Claim7.holds Tryz.pinned (.plain (OpenSpec.ofChange judgeSpoiltSpec)) judgeSpoiltCard

/-- THE SECOND FORM's CARD OF 'gimletlaw32.JudgeSpoilt'. -/
def judgeSpoiltUptoCard : Claim7 := { stood := { row := judgeSpoiltUptoRow, standIns := [], harness := (true, "c78cff824aa360e582149da3a78d8e0e4ad1e02409b459adf0b846d05ea2e6bd"), looks := false }, kinds := [], alts := [], laidByText := true, laidKinds := [.data, .data, .data], laidTests := true, laidLooks := .later }
def JudgeSpoiltUptoCardSaid : Prop := Claim7.holds Tryz.pinned (.plain (OpenSpec.upto judgeSpoiltSpec)) judgeSpoiltUptoCard
end Rows
end Go.Proofs.YtcelddmcoklooaaGreatDoor
