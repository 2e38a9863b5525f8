/-
  NARROWER THAN 'FOR EVERY INPUT', by the rows' own cells (each row's printed sentence says how): StopsApart: loops.
  DERIVED. THE GIVEN ROWS OF THIS SEAT. 4 by the template 'for every input the law returns true; each argument reads behind the call as it read before'; 0 by the template 'total and deterministic' (their statements: YtdhgdeelagmbpaaGreatTotals.lean).
  GIVEN WITH THE SEED: the statements are not yours to turn. If you find one false, say at which input.
  Laid BY PROGRAM, IN A SANDBOX (cutbox-rows.mjs): the forced cells as the released guide's own fill.sh prints them over the translation 83b33f4440df3f29… (all of the seat's roots in one cut). By AI agents, Wed Nov 11 2026. No macro, syntax, notation, axiom, sorry.
-/
import Derived.Test.YtdhgdeelagmbpaaGreatChecked
import GoSem.Claim
import GoSem.ClaimJoined
import GoSem.ClaimMapViews
import Derived.JoinedTies
import Derived.KernelRfl
namespace Go.Proofs.YtdhgdeelagmbpaaGreat
/- THE CELL 'sum', in the pinned program and in every row, IS THE sha256 OF THE DUMP (.gsa) THAT YtdhgdeelagmbpaaGreatProg.lean LOADS. Nothing in Lean hashes anything: it is a label: what it is worth is what the hold of that sum in a sandbox is worth. -/
noncomputable def Tryz.pinned : Pinned := { name := "ytdhgdeelagmbpaagreat", sum := "83b33f4440df3f2996ca2f0acb49dc56ff0e1f3552437c281ac1dffe269dd620", checked := Tryz.checked }
namespace Rows
def none {H : Type} : Left H := { results := [], args := [] }

/-- 'gimletlaw26.StopsTurned': WHATEVER THE INPUT: true; the input reads as it did. -/
def stopsTurnedSpec : ChangeSpec := { name := "stopsTurned", fn := fun _ => fun
  | [d1, d2, d3, d4] => { results := [.lit (.bool true)], args := [d1, d2, d3, d4] }
  | _ => none }
def stopsTurnedRow : OpenClaim := { program := "ytdhgdeelagmbpaagreat", sum := "83b33f4440df3f2996ca2f0acb49dc56ff0e1f3552437c281ac1dffe269dd620", func := "gimlet/gimletlaw26.StopsTurned", spec := "stopsTurned", unfollowed := true, recurses := true, apart := false }
def StopsTurnedSaid : Prop := stopsTurnedRow.holds Tryz.pinned (OpenSpec.ofChange stopsTurnedSpec)

/-- ITS FALSE NEIGHBOUR: 'it returns false'. Refute it at one input. -/
def stopsTurnedWrong : ChangeSpec := { name := "stopsTurned", fn := fun _ => fun
  | [d1, d2, d3, d4] => { results := [.lit (.bool false)], args := [d1, d2, d3, d4] }
  | _ => none }
def StopsTurnedWrongFalsely : Prop := stopsTurnedRow.holds Tryz.pinned (OpenSpec.ofChange stopsTurnedWrong)

/-- 'gimletlaw26.StopsOrder': WHATEVER THE INPUT: true; the input reads as it did. -/
def stopsOrderSpec : ChangeSpec := { name := "stopsOrder", fn := fun _ => fun
  | [d] => { results := [.lit (.bool true)], args := [d] }
  | _ => none }
def stopsOrderRow : OpenClaim := { program := "ytdhgdeelagmbpaagreat", sum := "83b33f4440df3f2996ca2f0acb49dc56ff0e1f3552437c281ac1dffe269dd620", func := "gimlet/gimletlaw26.StopsOrder", spec := "stopsOrder", unfollowed := true, recurses := true, apart := false }
def StopsOrderSaid : Prop := stopsOrderRow.holds Tryz.pinned (OpenSpec.ofChange stopsOrderSpec)

/-- ITS FALSE NEIGHBOUR: 'it returns false'. Refute it at one input. -/
def stopsOrderWrong : ChangeSpec := { name := "stopsOrder", fn := fun _ => fun
  | [d] => { results := [.lit (.bool false)], args := [d] }
  | _ => none }
def StopsOrderWrongFalsely : Prop := stopsOrderRow.holds Tryz.pinned (OpenSpec.ofChange stopsOrderWrong)

/-- 'gimletlaw26.StopsApart': WHATEVER THE INPUT: true; the input reads as it did. -/
def stopsApartSpec : ChangeSpec := { name := "stopsApart", fn := fun _ => fun
  | [d1, d2, d3] => { results := [.lit (.bool true)], args := [d1, d2, d3] }
  | _ => none }
def stopsApartRow : OpenClaim := { program := "ytdhgdeelagmbpaagreat", sum := "83b33f4440df3f2996ca2f0acb49dc56ff0e1f3552437c281ac1dffe269dd620", func := "gimlet/gimletlaw26.StopsApart", spec := "stopsApart", unfollowed := true, recurses := true, loops := true, apart := false }
def StopsApartSaid : Prop := stopsApartRow.holds Tryz.pinned (OpenSpec.ofChange stopsApartSpec)

/-- ITS FALSE NEIGHBOUR: 'it returns false'. Refute it at one input. -/
def stopsApartWrong : ChangeSpec := { name := "stopsApart", fn := fun _ => fun
  | [d1, d2, d3] => { results := [.lit (.bool false)], args := [d1, d2, d3] }
  | _ => none }
def StopsApartWrongFalsely : Prop := stopsApartRow.holds Tryz.pinned (OpenSpec.ofChange stopsApartWrong)

/-- 'gimletlaw26.StopsAlong': WHATEVER THE INPUT: true; the input reads as it did. -/
def stopsAlongSpec : ChangeSpec := { name := "stopsAlong", fn := fun _ => fun
  | [d1, d2, d3] => { results := [.lit (.bool true)], args := [d1, d2, d3] }
  | _ => none }
def stopsAlongRow : OpenClaim := { program := "ytdhgdeelagmbpaagreat", sum := "83b33f4440df3f2996ca2f0acb49dc56ff0e1f3552437c281ac1dffe269dd620", func := "gimlet/gimletlaw26.StopsAlong", spec := "stopsAlong", unfollowed := true, recurses := true, apart := false }
def StopsAlongSaid : Prop := stopsAlongRow.holds Tryz.pinned (OpenSpec.ofChange stopsAlongSpec)

/-- ITS FALSE NEIGHBOUR: 'it returns false'. Refute it at one input. -/
def stopsAlongWrong : ChangeSpec := { name := "stopsAlong", fn := fun _ => fun
  | [d1, d2, d3] => { results := [.lit (.bool false)], args := [d1, d2, d3] }
  | _ => none }
def StopsAlongWrongFalsely : Prop := stopsAlongRow.holds Tryz.pinned (OpenSpec.ofChange stopsAlongWrong)

/- THE SECOND FORM. 'bulk': how many values and letters a reading holds, each counted each time it is reached (what is shared counts as often as it is met; a slice's spare places count too). A statement '..UptoSaid' is the law's where the arguments, and the package variables that the reading takes, are together of bulk at most 1048576: NARROWER than '..Said'. Prove '..Said' where nothing that the law and all that it calls make is longer than what came in: it says more and counts as full. Else prove '..UptoSaid'. A law counts once. -/
mutual
def uptoBulk {H : Type} : DataW H → Nat
  | .lit (.string bytes) => bytes.length + 1
  | .lit _ => 1
  | .nil => 1
  | .ptr d => uptoBulk d + 1
  | .slice elems spare => uptoBulkAll elems + uptoBulkAll spare + 1
  | .agg parts => uptoBulkAll parts + 1
  | .iface _ d => uptoBulk d + 1
  | .map entries => uptoBulkEntries entries + 1
  | .held _ => 1
def uptoBulkAll {H : Type} : List (DataW H) → Nat
  | [] => 0
  | d :: r => uptoBulk d + uptoBulkAll r
def uptoBulkEntries {H : Type} : List (Lit × DataW H) → Nat
  | [] => 0
  | x :: r => uptoBulkEntry x + uptoBulkEntries r
def uptoBulkEntry {H : Type} : Lit × DataW H → Nat
  | (.string bytes, d) => bytes.length + uptoBulk d + 1
  | (_, d) => uptoBulk d + 1
 end
def uptoSmall : (H : Type) → List (DataW H) → Bool := fun _ ds => decide (uptoBulkAll ds ≤ 1048576)
def OpenSpec.upto (s : _root_.Go.ChangeSpec) : _root_.Go.OpenSpec := { _root_.Go.OpenSpec.ofChange s with cond := some uptoSmall }

/-- 'gimletlaw26.StopsTurned', WHERE WHAT IT READS IS OF BULK AT MOST 1048576: true; the input reads as it did. -/
def stopsTurnedUptoRow : OpenClaim := { program := "ytdhgdeelagmbpaagreat", sum := "83b33f4440df3f2996ca2f0acb49dc56ff0e1f3552437c281ac1dffe269dd620", func := "gimlet/gimletlaw26.StopsTurned", spec := "stopsTurned", unfollowed := true, recurses := true, apart := false, narrowed := true }
def StopsTurnedUptoSaid : Prop := stopsTurnedUptoRow.holds Tryz.pinned (OpenSpec.upto stopsTurnedSpec)

/-- 'gimletlaw26.StopsOrder', WHERE WHAT IT READS IS OF BULK AT MOST 1048576: true; the input reads as it did. -/
def stopsOrderUptoRow : OpenClaim := { program := "ytdhgdeelagmbpaagreat", sum := "83b33f4440df3f2996ca2f0acb49dc56ff0e1f3552437c281ac1dffe269dd620", func := "gimlet/gimletlaw26.StopsOrder", spec := "stopsOrder", unfollowed := true, recurses := true, apart := false, narrowed := true }
def StopsOrderUptoSaid : Prop := stopsOrderUptoRow.holds Tryz.pinned (OpenSpec.upto stopsOrderSpec)

/-- 'gimletlaw26.StopsApart', WHERE WHAT IT READS IS OF BULK AT MOST 1048576: true; the input reads as it did. -/
def stopsApartUptoRow : OpenClaim := { program := "ytdhgdeelagmbpaagreat", sum := "83b33f4440df3f2996ca2f0acb49dc56ff0e1f3552437c281ac1dffe269dd620", func := "gimlet/gimletlaw26.StopsApart", spec := "stopsApart", unfollowed := true, recurses := true, loops := true, apart := false, narrowed := true }
def StopsApartUptoSaid : Prop := stopsApartUptoRow.holds Tryz.pinned (OpenSpec.upto stopsApartSpec)

/-- 'gimletlaw26.StopsAlong', WHERE WHAT IT READS IS OF BULK AT MOST 1048576: true; the input reads as it did. -/
def stopsAlongUptoRow : OpenClaim := { program := "ytdhgdeelagmbpaagreat", sum := "83b33f4440df3f2996ca2f0acb49dc56ff0e1f3552437c281ac1dffe269dd620", func := "gimlet/gimletlaw26.StopsAlong", spec := "stopsAlong", unfollowed := true, recurses := true, apart := false, narrowed := true }
def StopsAlongUptoSaid : Prop := stopsAlongUptoRow.holds Tryz.pinned (OpenSpec.upto stopsAlongSpec)

end Rows
end Go.Proofs.YtdhgdeelagmbpaaGreat
