/-
  NARROWER THAN 'FOR EVERY INPUT', by the rows' own cells (each row's printed sentence says how): NodeSame: loops · NodeJoin: loops · NodeNumbers: loops.
  DERIVED. THE GIVEN ROWS OF THIS SEAT. 5 by the template 'for every input the law returns true; each argument reads behind the call as it read before'; 0 by the template 'total and deterministic' (their statements: YtmlmgbnhaenabaaTotals.lean).
  GIVEN WITH THE SEED: the statements are not yours to turn. If you find one false, say at which input.
  Laid BY PROGRAM, IN A SANDBOX (cutbox-rows.mjs): the forced cells as the released guide's own fill.sh prints them over the translation 4fb3c65824fac396… (all of the seat's roots in one cut). By AI agents, Wed Nov 11 2026. No macro, syntax, notation, axiom, sorry.
-/
import Derived.Test.YtmlmgbnhaenabaaChecked
import GoSem.Claim
import GoSem.ClaimJoined
import GoSem.ClaimMapViews
import Derived.JoinedTies
import Derived.KernelRfl
namespace Go.Proofs.Ytmlmgbnhaenabaa
/- THE CELL 'sum', in the pinned program and in every row, IS THE sha256 OF THE DUMP (.gsa) THAT YtmlmgbnhaenabaaProg.lean LOADS. Nothing in Lean hashes anything: it is a label: what it is worth is what the hold of that sum in a sandbox is worth. -/
noncomputable def Try.pinned : Pinned := { name := "ytmlmgbnhaenabaa", sum := "4fb3c65824fac396bd92af2e2e1f6cdfb2462af4b457bc9c8c201df75658c3ea", checked := Try.checked }
namespace Rows
def none {H : Type} : Left H := { results := [], args := [] }

/-- 'gimletlaw20.NodeSame': WHATEVER THE INPUT: true; the input reads as it did. -/
def nodeSameSpec : ChangeSpec := { name := "nodeSame", fn := fun _ => fun
  | [d1, d2] => { results := [.lit (.bool true)], args := [d1, d2] }
  | _ => none }
def nodeSameRow : OpenClaim := { program := "ytmlmgbnhaenabaa", sum := "4fb3c65824fac396bd92af2e2e1f6cdfb2462af4b457bc9c8c201df75658c3ea", func := "gimlet/gimletlaw20.NodeSame", spec := "nodeSame", unfollowed := true, recurses := true, loops := true, apart := false }
def NodeSameSaid : Prop := nodeSameRow.holds Try.pinned (OpenSpec.ofChange nodeSameSpec)

/-- ITS FALSE NEIGHBOUR: 'it returns false'. Refute it at one input. -/
def nodeSameWrong : ChangeSpec := { name := "nodeSame", fn := fun _ => fun
  | [d1, d2] => { results := [.lit (.bool false)], args := [d1, d2] }
  | _ => none }
def NodeSameWrongFalsely : Prop := nodeSameRow.holds Try.pinned (OpenSpec.ofChange nodeSameWrong)

/-- 'gimletlaw20.NodeJoin': WHATEVER THE INPUT: true; the input reads as it did. -/
def nodeJoinSpec : ChangeSpec := { name := "nodeJoin", fn := fun _ => fun
  | [d] => { results := [.lit (.bool true)], args := [d] }
  | _ => none }
def nodeJoinRow : OpenClaim := { program := "ytmlmgbnhaenabaa", sum := "4fb3c65824fac396bd92af2e2e1f6cdfb2462af4b457bc9c8c201df75658c3ea", func := "gimlet/gimletlaw20.NodeJoin", spec := "nodeJoin", unfollowed := true, recurses := true, loops := true, apart := false }
def NodeJoinSaid : Prop := nodeJoinRow.holds Try.pinned (OpenSpec.ofChange nodeJoinSpec)

/-- ITS FALSE NEIGHBOUR: 'it returns false'. Refute it at one input. -/
def nodeJoinWrong : ChangeSpec := { name := "nodeJoin", fn := fun _ => fun
  | [d] => { results := [.lit (.bool false)], args := [d] }
  | _ => none }
def NodeJoinWrongFalsely : Prop := nodeJoinRow.holds Try.pinned (OpenSpec.ofChange nodeJoinWrong)

/-- 'gimletlaw20.NodeNames': WHATEVER THE INPUT: true; the input reads as it did. -/
def nodeNamesSpec : ChangeSpec := { name := "nodeNames", fn := fun _ => fun
  | [d1, d2, d3] => { results := [.lit (.bool true)], args := [d1, d2, d3] }
  | _ => none }
def nodeNamesRow : OpenClaim := { program := "ytmlmgbnhaenabaa", sum := "4fb3c65824fac396bd92af2e2e1f6cdfb2462af4b457bc9c8c201df75658c3ea", func := "gimlet/gimletlaw20.NodeNames", spec := "nodeNames", unfollowed := true, recurses := true, apart := false }
def NodeNamesSaid : Prop := nodeNamesRow.holds Try.pinned (OpenSpec.ofChange nodeNamesSpec)

/-- ITS FALSE NEIGHBOUR: 'it returns false'. Refute it at one input. -/
def nodeNamesWrong : ChangeSpec := { name := "nodeNames", fn := fun _ => fun
  | [d1, d2, d3] => { results := [.lit (.bool false)], args := [d1, d2, d3] }
  | _ => none }
def NodeNamesWrongFalsely : Prop := nodeNamesRow.holds Try.pinned (OpenSpec.ofChange nodeNamesWrong)

/-- 'gimletlaw20.NodeLimits': WHATEVER THE INPUT: true; the input reads as it did. -/
def nodeLimitsSpec : ChangeSpec := { name := "nodeLimits", fn := fun _ => fun
  | [d1, d2] => { results := [.lit (.bool true)], args := [d1, d2] }
  | _ => none }
def nodeLimitsRow : OpenClaim := { program := "ytmlmgbnhaenabaa", sum := "4fb3c65824fac396bd92af2e2e1f6cdfb2462af4b457bc9c8c201df75658c3ea", func := "gimlet/gimletlaw20.NodeLimits", spec := "nodeLimits", unfollowed := true, recurses := true, apart := false }
def NodeLimitsSaid : Prop := nodeLimitsRow.holds Try.pinned (OpenSpec.ofChange nodeLimitsSpec)

/-- ITS FALSE NEIGHBOUR: 'it returns false'. Refute it at one input. -/
def nodeLimitsWrong : ChangeSpec := { name := "nodeLimits", fn := fun _ => fun
  | [d1, d2] => { results := [.lit (.bool false)], args := [d1, d2] }
  | _ => none }
def NodeLimitsWrongFalsely : Prop := nodeLimitsRow.holds Try.pinned (OpenSpec.ofChange nodeLimitsWrong)

/-- 'gimletlaw20.NodeNumbers': WHATEVER THE INPUT: true; the input reads as it did. -/
def nodeNumbersSpec : ChangeSpec := { name := "nodeNumbers", fn := fun _ => fun
  | [d] => { results := [.lit (.bool true)], args := [d] }
  | _ => none }
def nodeNumbersRow : OpenClaim := { program := "ytmlmgbnhaenabaa", sum := "4fb3c65824fac396bd92af2e2e1f6cdfb2462af4b457bc9c8c201df75658c3ea", func := "gimlet/gimletlaw20.NodeNumbers", spec := "nodeNumbers", unfollowed := true, recurses := true, loops := true, apart := false }
def NodeNumbersSaid : Prop := nodeNumbersRow.holds Try.pinned (OpenSpec.ofChange nodeNumbersSpec)

/-- ITS FALSE NEIGHBOUR: 'it returns false'. Refute it at one input. -/
def nodeNumbersWrong : ChangeSpec := { name := "nodeNumbers", fn := fun _ => fun
  | [d] => { results := [.lit (.bool false)], args := [d] }
  | _ => none }
def NodeNumbersWrongFalsely : Prop := nodeNumbersRow.holds Try.pinned (OpenSpec.ofChange nodeNumbersWrong)

/- THE SECOND FORM. 'bulk': how many values and letters a reading holds, each counted each time it is reached (what is shared counts as often as it is met; a slice's spare places count too). A statement '..UptoSaid' is the law's where the arguments, and the package variables that the reading takes, are together of bulk at most 1048576: NARROWER than '..Said'. Prove '..Said' where nothing that the law and all that it calls make is longer than what came in: it says more and counts as full. Else prove '..UptoSaid'. A law counts once. -/
mutual
def uptoBulk {H : Type} : DataW H → Nat
  | .lit (.string bytes) => bytes.length + 1
  | .lit _ => 1
  | .nil => 1
  | .ptr d => uptoBulk d + 1
  | .slice elems spare => uptoBulkAll elems + uptoBulkAll spare + 1
  | .agg parts => uptoBulkAll parts + 1
  | .iface _ d => uptoBulk d + 1
  | .map entries => uptoBulkEntries entries + 1
  | .held _ => 1
def uptoBulkAll {H : Type} : List (DataW H) → Nat
  | [] => 0
  | d :: r => uptoBulk d + uptoBulkAll r
def uptoBulkEntries {H : Type} : List (Lit × DataW H) → Nat
  | [] => 0
  | x :: r => uptoBulkEntry x + uptoBulkEntries r
def uptoBulkEntry {H : Type} : Lit × DataW H → Nat
  | (.string bytes, d) => bytes.length + uptoBulk d + 1
  | (_, d) => uptoBulk d + 1
 end
def uptoSmall : (H : Type) → List (DataW H) → Bool := fun _ ds => decide (uptoBulkAll ds ≤ 1048576)
def OpenSpec.upto (s : _root_.Go.ChangeSpec) : _root_.Go.OpenSpec := { _root_.Go.OpenSpec.ofChange s with cond := some uptoSmall }

/-- 'gimletlaw20.NodeSame', WHERE WHAT IT READS IS OF BULK AT MOST 1048576: true; the input reads as it did. -/
def nodeSameUptoRow : OpenClaim := { program := "ytmlmgbnhaenabaa", sum := "4fb3c65824fac396bd92af2e2e1f6cdfb2462af4b457bc9c8c201df75658c3ea", func := "gimlet/gimletlaw20.NodeSame", spec := "nodeSame", unfollowed := true, recurses := true, loops := true, apart := false, narrowed := true }
def NodeSameUptoSaid : Prop := nodeSameUptoRow.holds Try.pinned (OpenSpec.upto nodeSameSpec)

/-- 'gimletlaw20.NodeJoin', WHERE WHAT IT READS IS OF BULK AT MOST 1048576: true; the input reads as it did. -/
def nodeJoinUptoRow : OpenClaim := { program := "ytmlmgbnhaenabaa", sum := "4fb3c65824fac396bd92af2e2e1f6cdfb2462af4b457bc9c8c201df75658c3ea", func := "gimlet/gimletlaw20.NodeJoin", spec := "nodeJoin", unfollowed := true, recurses := true, loops := true, apart := false, narrowed := true }
def NodeJoinUptoSaid : Prop := nodeJoinUptoRow.holds Try.pinned (OpenSpec.upto nodeJoinSpec)

/-- 'gimletlaw20.NodeNames', WHERE WHAT IT READS IS OF BULK AT MOST 1048576: true; the input reads as it did. -/
def nodeNamesUptoRow : OpenClaim := { program := "ytmlmgbnhaenabaa", sum := "4fb3c65824fac396bd92af2e2e1f6cdfb2462af4b457bc9c8c201df75658c3ea", func := "gimlet/gimletlaw20.NodeNames", spec := "nodeNames", unfollowed := true, recurses := true, apart := false, narrowed := true }
def NodeNamesUptoSaid : Prop := nodeNamesUptoRow.holds Try.pinned (OpenSpec.upto nodeNamesSpec)

/-- 'gimletlaw20.NodeLimits', WHERE WHAT IT READS IS OF BULK AT MOST 1048576: true; the input reads as it did. -/
def nodeLimitsUptoRow : OpenClaim := { program := "ytmlmgbnhaenabaa", sum := "4fb3c65824fac396bd92af2e2e1f6cdfb2462af4b457bc9c8c201df75658c3ea", func := "gimlet/gimletlaw20.NodeLimits", spec := "nodeLimits", unfollowed := true, recurses := true, apart := false, narrowed := true }
def NodeLimitsUptoSaid : Prop := nodeLimitsUptoRow.holds Try.pinned (OpenSpec.upto nodeLimitsSpec)

/-- 'gimletlaw20.NodeNumbers', WHERE WHAT IT READS IS OF BULK AT MOST 1048576: true; the input reads as it did. -/
def nodeNumbersUptoRow : OpenClaim := { program := "ytmlmgbnhaenabaa", sum := "4fb3c65824fac396bd92af2e2e1f6cdfb2462af4b457bc9c8c201df75658c3ea", func := "gimlet/gimletlaw20.NodeNumbers", spec := "nodeNumbers", unfollowed := true, recurses := true, loops := true, apart := false, narrowed := true }
def NodeNumbersUptoSaid : Prop := nodeNumbersUptoRow.holds Try.pinned (OpenSpec.upto nodeNumbersSpec)

end Rows
end Go.Proofs.Ytmlmgbnhaenabaa
