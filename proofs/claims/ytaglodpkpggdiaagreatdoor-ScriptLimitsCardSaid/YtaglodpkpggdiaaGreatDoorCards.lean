/-
  DERIVED. GIVEN WITH THE SEED: THE CARDS: each row of YtaglodpkpggdiaaGreatDoorRows.lean that lists a variable, with what it lists TIED to the program's text (the seventh form; the later family's looks); each row that meets fmt, with fmt's text TOLD by the authors' own Lean function (tested against real Go, not proved from fmt's source: count such statements apart). THE CARD IS WHAT COUNTS. Prove the row's statement (the work); the ties are given (YtaglodpkpggdiaaGreatDoorTie.lean); close each card by the builder's one call (the guide's Derived/Test/ToyasCard.lean, 'card_holds'). Laid BY PROGRAM, IN A SANDBOX (cutbox-door.mjs). By AI agents, Wed Nov 11 2026. No macro, syntax, notation, axiom, sorry.
-/
import Derived.Test.YtaglodpkpggdiaaGreatDoorRows
import GoSem.ClaimSeven
namespace Go.Proofs.YtaglodpkpggdiaaGreatDoor
namespace Rows

/-- THE TIED CARD OF 'gimletlaw31.ScriptBack'. -/
def scriptBackCard : Claim7 := { stood := { row := scriptBackRow, standIns := [], harness := (true, "e3a77a696877712b36cf2919243be5970ec171be254ac1322f29e5a803a07b73"), looks := false }, kinds := [], alts := [], laidByText := true, laidKinds := [.data, .data, .data], laidTests := true, laidLooks := .later }
def ScriptBackCardSaid : Prop := Claim7.holds Tryz.pinned (.plain (OpenSpec.ofChange scriptBackSpec)) scriptBackCard

/-- THE TIED CARD OF 'gimletlaw31.ScriptLine'. -/
def scriptLineCard : Claim7 := { stood := { row := scriptLineRow, standIns := [], harness := (true, "e3a77a696877712b36cf2919243be5970ec171be254ac1322f29e5a803a07b73"), looks := false }, kinds := [], alts := [], laidByText := true, laidKinds := [.data, .data, .data], laidTests := true, laidLooks := .later }
def ScriptLineCardSaid : Prop := Claim7.holds Tryz.pinned (.plain (OpenSpec.ofChange scriptLineSpec)) scriptLineCard

/-- THE TIED CARD OF 'gimletlaw31.ScriptLimits'. -/
def scriptLimitsCard : Claim7 := { stood := { row := scriptLimitsRow, standIns := [], harness := (true, "e3a77a696877712b36cf2919243be5970ec171be254ac1322f29e5a803a07b73"), looks := false }, kinds := [], alts := [], laidByText := true, laidKinds := [.data, .data, .data], laidTests := true, laidLooks := .later }
def ScriptLimitsCardSaid : Prop := Claim7.holds Tryz.pinned (.plain (OpenSpec.ofChange scriptLimitsSpec)) scriptLimitsCard

/-- THE SECOND FORM's CARD OF 'gimletlaw31.ScriptBack'. -/
def scriptBackUptoCard : Claim7 := { stood := { row := scriptBackUptoRow, standIns := [], harness := (true, "e3a77a696877712b36cf2919243be5970ec171be254ac1322f29e5a803a07b73"), looks := false }, kinds := [], alts := [], laidByText := true, laidKinds := [.data, .data, .data], laidTests := true, laidLooks := .later }
def ScriptBackUptoCardSaid : Prop := Claim7.holds Tryz.pinned (.plain (OpenSpec.upto scriptBackSpec)) scriptBackUptoCard

/-- THE SECOND FORM's CARD OF 'gimletlaw31.ScriptLine'. -/
def scriptLineUptoCard : Claim7 := { stood := { row := scriptLineUptoRow, standIns := [], harness := (true, "e3a77a696877712b36cf2919243be5970ec171be254ac1322f29e5a803a07b73"), looks := false }, kinds := [], alts := [], laidByText := true, laidKinds := [.data, .data, .data], laidTests := true, laidLooks := .later }
def ScriptLineUptoCardSaid : Prop := Claim7.holds Tryz.pinned (.plain (OpenSpec.upto scriptLineSpec)) scriptLineUptoCard

/-- THE SECOND FORM's CARD OF 'gimletlaw31.ScriptLimits'. -/
def scriptLimitsUptoCard : Claim7 := { stood := { row := scriptLimitsUptoRow, standIns := [], harness := (true, "e3a77a696877712b36cf2919243be5970ec171be254ac1322f29e5a803a07b73"), looks := false }, kinds := [], alts := [], laidByText := true, laidKinds := [.data, .data, .data], laidTests := true, laidLooks := .later }
def ScriptLimitsUptoCardSaid : Prop := Claim7.holds Tryz.pinned (.plain (OpenSpec.upto scriptLimitsSpec)) scriptLimitsUptoCard
end Rows
end Go.Proofs.YtaglodpkpggdiaaGreatDoor
