/-
  NARROWER THAN 'FOR EVERY INPUT', by the rows' own cells (each row's printed sentence says how): StopsMay: loops · StopsTell: loops · StopsWalk: loops.
  DERIVED. THE GIVEN ROWS OF THIS SEAT. 4 by the template 'for every input the law returns true; each argument reads behind the call as it read before'; 0 by the template 'total and deterministic' (their statements: YtdhgdeelagmbpaaTotals.lean).
  GIVEN WITH THE SEED: the statements are not yours to turn. If you find one false, say at which input.
  Laid BY PROGRAM, IN A SANDBOX (cutbox-rows.mjs): the forced cells as the released guide's own fill.sh prints them over the translation 59e320f586503568… (all of the seat's roots in one cut). By AI agents, Wed Nov 11 2026. No macro, syntax, notation, axiom, sorry.
-/
import Derived.Test.YtdhgdeelagmbpaaChecked
import GoSem.Claim
import GoSem.ClaimJoined
import GoSem.ClaimMapViews
import Derived.JoinedTies
import Derived.KernelRfl
namespace Go.Proofs.Ytdhgdeelagmbpaa
/- THE CELL 'sum', in the pinned program and in every row, IS THE sha256 OF THE DUMP (.gsa) THAT YtdhgdeelagmbpaaProg.lean LOADS. Nothing in Lean hashes anything: it is a label: what it is worth is what the hold of that sum in a sandbox is worth. -/
noncomputable def Try.pinned : Pinned := { name := "ytdhgdeelagmbpaa", sum := "59e320f586503568c8a6dabe880e84d872562eb31ed8d30b05d255499cbdca0d", checked := Try.checked }
namespace Rows
def none {H : Type} : Left H := { results := [], args := [] }

/-- 'gimletlaw26.StopsMay': WHATEVER THE INPUT: true; the input reads as it did. -/
def stopsMaySpec : ChangeSpec := { name := "stopsMay", fn := fun _ => fun
  | [d1, d2] => { results := [.lit (.bool true)], args := [d1, d2] }
  | _ => none }
def stopsMayRow : OpenClaim := { program := "ytdhgdeelagmbpaa", sum := "59e320f586503568c8a6dabe880e84d872562eb31ed8d30b05d255499cbdca0d", func := "gimlet/gimletlaw26.StopsMay", spec := "stopsMay", unfollowed := true, recurses := true, loops := true, apart := false }
def StopsMaySaid : Prop := stopsMayRow.holds Try.pinned (OpenSpec.ofChange stopsMaySpec)

/-- ITS FALSE NEIGHBOUR: 'it returns false'. Refute it at one input. -/
def stopsMayWrong : ChangeSpec := { name := "stopsMay", fn := fun _ => fun
  | [d1, d2] => { results := [.lit (.bool false)], args := [d1, d2] }
  | _ => none }
def StopsMayWrongFalsely : Prop := stopsMayRow.holds Try.pinned (OpenSpec.ofChange stopsMayWrong)

/-- 'gimletlaw26.StopsRings': WHATEVER THE INPUT: true; the input reads as it did. -/
def stopsRingsSpec : ChangeSpec := { name := "stopsRings", fn := fun _ => fun
  | [d1, d2] => { results := [.lit (.bool true)], args := [d1, d2] }
  | _ => none }
def stopsRingsRow : OpenClaim := { program := "ytdhgdeelagmbpaa", sum := "59e320f586503568c8a6dabe880e84d872562eb31ed8d30b05d255499cbdca0d", func := "gimlet/gimletlaw26.StopsRings", spec := "stopsRings", unfollowed := true, recurses := true, apart := false }
def StopsRingsSaid : Prop := stopsRingsRow.holds Try.pinned (OpenSpec.ofChange stopsRingsSpec)

/-- ITS FALSE NEIGHBOUR: 'it returns false'. Refute it at one input. -/
def stopsRingsWrong : ChangeSpec := { name := "stopsRings", fn := fun _ => fun
  | [d1, d2] => { results := [.lit (.bool false)], args := [d1, d2] }
  | _ => none }
def StopsRingsWrongFalsely : Prop := stopsRingsRow.holds Try.pinned (OpenSpec.ofChange stopsRingsWrong)

/-- 'gimletlaw26.StopsTell': WHATEVER THE INPUT: true; the input reads as it did. -/
def stopsTellSpec : ChangeSpec := { name := "stopsTell", fn := fun _ => fun
  | [d1, d2, d3] => { results := [.lit (.bool true)], args := [d1, d2, d3] }
  | _ => none }
def stopsTellRow : OpenClaim := { program := "ytdhgdeelagmbpaa", sum := "59e320f586503568c8a6dabe880e84d872562eb31ed8d30b05d255499cbdca0d", func := "gimlet/gimletlaw26.StopsTell", spec := "stopsTell", unfollowed := true, recurses := true, loops := true, apart := false }
def StopsTellSaid : Prop := stopsTellRow.holds Try.pinned (OpenSpec.ofChange stopsTellSpec)

/-- ITS FALSE NEIGHBOUR: 'it returns false'. Refute it at one input. -/
def stopsTellWrong : ChangeSpec := { name := "stopsTell", fn := fun _ => fun
  | [d1, d2, d3] => { results := [.lit (.bool false)], args := [d1, d2, d3] }
  | _ => none }
def StopsTellWrongFalsely : Prop := stopsTellRow.holds Try.pinned (OpenSpec.ofChange stopsTellWrong)

/-- 'gimletlaw26.StopsWalk': WHATEVER THE INPUT: true; the input reads as it did. -/
def stopsWalkSpec : ChangeSpec := { name := "stopsWalk", fn := fun _ => fun
  | [d] => { results := [.lit (.bool true)], args := [d] }
  | _ => none }
def stopsWalkRow : OpenClaim := { program := "ytdhgdeelagmbpaa", sum := "59e320f586503568c8a6dabe880e84d872562eb31ed8d30b05d255499cbdca0d", func := "gimlet/gimletlaw26.StopsWalk", spec := "stopsWalk", unfollowed := true, recurses := true, loops := true, apart := false }
def StopsWalkSaid : Prop := stopsWalkRow.holds Try.pinned (OpenSpec.ofChange stopsWalkSpec)

/-- ITS FALSE NEIGHBOUR: 'it returns false'. Refute it at one input. -/
def stopsWalkWrong : ChangeSpec := { name := "stopsWalk", fn := fun _ => fun
  | [d] => { results := [.lit (.bool false)], args := [d] }
  | _ => none }
def StopsWalkWrongFalsely : Prop := stopsWalkRow.holds Try.pinned (OpenSpec.ofChange stopsWalkWrong)

/- THE SECOND FORM. 'bulk': how many values and letters a reading holds, each counted each time it is reached (what is shared counts as often as it is met; a slice's spare places count too). A statement '..UptoSaid' is the law's where the arguments, and the package variables that the reading takes, are together of bulk at most 1048576: NARROWER than '..Said'. Prove '..Said' where nothing that the law and all that it calls make is longer than what came in: it says more and counts as full. Else prove '..UptoSaid'. A law counts once. -/
mutual
def uptoBulk {H : Type} : DataW H → Nat
  | .lit (.string bytes) => bytes.length + 1
  | .lit _ => 1
  | .nil => 1
  | .ptr d => uptoBulk d + 1
  | .slice elems spare => uptoBulkAll elems + uptoBulkAll spare + 1
  | .agg parts => uptoBulkAll parts + 1
  | .iface _ d => uptoBulk d + 1
  | .map entries => uptoBulkEntries entries + 1
  | .held _ => 1
def uptoBulkAll {H : Type} : List (DataW H) → Nat
  | [] => 0
  | d :: r => uptoBulk d + uptoBulkAll r
def uptoBulkEntries {H : Type} : List (Lit × DataW H) → Nat
  | [] => 0
  | x :: r => uptoBulkEntry x + uptoBulkEntries r
def uptoBulkEntry {H : Type} : Lit × DataW H → Nat
  | (.string bytes, d) => bytes.length + uptoBulk d + 1
  | (_, d) => uptoBulk d + 1
 end
def uptoSmall : (H : Type) → List (DataW H) → Bool := fun _ ds => decide (uptoBulkAll ds ≤ 1048576)
def OpenSpec.upto (s : _root_.Go.ChangeSpec) : _root_.Go.OpenSpec := { _root_.Go.OpenSpec.ofChange s with cond := some uptoSmall }

/-- 'gimletlaw26.StopsMay', WHERE WHAT IT READS IS OF BULK AT MOST 1048576: true; the input reads as it did. -/
def stopsMayUptoRow : OpenClaim := { program := "ytdhgdeelagmbpaa", sum := "59e320f586503568c8a6dabe880e84d872562eb31ed8d30b05d255499cbdca0d", func := "gimlet/gimletlaw26.StopsMay", spec := "stopsMay", unfollowed := true, recurses := true, loops := true, apart := false, narrowed := true }
def StopsMayUptoSaid : Prop := stopsMayUptoRow.holds Try.pinned (OpenSpec.upto stopsMaySpec)

/-- 'gimletlaw26.StopsRings', WHERE WHAT IT READS IS OF BULK AT MOST 1048576: true; the input reads as it did. -/
def stopsRingsUptoRow : OpenClaim := { program := "ytdhgdeelagmbpaa", sum := "59e320f586503568c8a6dabe880e84d872562eb31ed8d30b05d255499cbdca0d", func := "gimlet/gimletlaw26.StopsRings", spec := "stopsRings", unfollowed := true, recurses := true, apart := false, narrowed := true }
def StopsRingsUptoSaid : Prop := stopsRingsUptoRow.holds Try.pinned (OpenSpec.upto stopsRingsSpec)

/-- 'gimletlaw26.StopsTell', WHERE WHAT IT READS IS OF BULK AT MOST 1048576: true; the input reads as it did. -/
def stopsTellUptoRow : OpenClaim := { program := "ytdhgdeelagmbpaa", sum := "59e320f586503568c8a6dabe880e84d872562eb31ed8d30b05d255499cbdca0d", func := "gimlet/gimletlaw26.StopsTell", spec := "stopsTell", unfollowed := true, recurses := true, loops := true, apart := false, narrowed := true }
def StopsTellUptoSaid : Prop := stopsTellUptoRow.holds Try.pinned (OpenSpec.upto stopsTellSpec)

/-- 'gimletlaw26.StopsWalk', WHERE WHAT IT READS IS OF BULK AT MOST 1048576: true; the input reads as it did. -/
def stopsWalkUptoRow : OpenClaim := { program := "ytdhgdeelagmbpaa", sum := "59e320f586503568c8a6dabe880e84d872562eb31ed8d30b05d255499cbdca0d", func := "gimlet/gimletlaw26.StopsWalk", spec := "stopsWalk", unfollowed := true, recurses := true, loops := true, apart := false, narrowed := true }
def StopsWalkUptoSaid : Prop := stopsWalkUptoRow.holds Try.pinned (OpenSpec.upto stopsWalkSpec)

end Rows
end Go.Proofs.Ytdhgdeelagmbpaa
