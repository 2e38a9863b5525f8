/-
  A state of one session, one instance, two stops of number 3: what is wrong with it.
-/
import Derived.Test.YtcelddmcoklooaaGreatDoorJam
import Derived.Test.YtcelddmcoklooaaGreatDoorJah
set_option linter.unusedSimpArgs false
set_option linter.unusedVariables false
namespace Go.Proofs.YtcelddmcoklooaaGreatDoor
open Go Go.Gm
abbrev zRx : T.Rx := T.Rx.mk 0 [] false ⟨true,[]⟩ 0 0 false ⟨true,[]⟩
abbrev qzg : T.Form := T.Form.mk zRx ⟨true,[]⟩ false false
abbrev stp (a b : Int) (f : Bool) : T.Stop := T.Stop.mk ⟨a,b⟩ 3 (-1) f false qzg ⟨true,[]⟩
abbrev ins (q a b c d : Int) : T.qc := ⟨⟨0,q⟩,⟨false,[stp a b true,stp c d false]⟩⟩
abbrev ses (k q a b c d : Int) : T.qb := ⟨k,⟨false,[ins q a b c d]⟩⟩
abbrev j4 : Sl T.Sel := ⟨false,[⟨0,0⟩]⟩
theorem g0 {α : Type} (x : α) (r : List α) : qh (x :: r) 0 = some x := rfl
theorem g1 {α : Type} (x y : α) (r : List α) : qh (x :: y :: r) 1 = some y := rfl
theorem w1 : IntKind.i64.wrap ((0 : Int) + 1) = 1 := by decide
theorem w2 : IntKind.i64.wrap ((1 : Int) + 1) = 2 := by decide
theorem w0 : IntKind.i64.wrap ((1 : Int) - 1) = 0 := by decide
theorem wm : IntKind.i64.wrap ((0 : Int) - 1) = -1 := by decide
theorem l1 {α : Type} (x : α) : (([x] : List α).length : Int) = 1 := rfl
theorem l2 {α : Type} (x y : α) : (([x,y] : List α).length : Int) = 2 := rfl
variable {k q a b c d : Int}
theorem qt5 (k : Int) (hk : k = 0 ∨ k = 1) : q67 (ins q a b c d) k = some (-1) := by
 unfold q67
 rcases hk with rfl | rfl
 ·simp [g0]
 ·simp [g1]
theorem qfg (k : Int) (hk : k = 0 ∨ k = 1) : q6j (ins q a b c d) k = some true := by
 unfold q6j
 rcases hk with rfl | rfl
 ·rw [wm,q1b.eq_1,if_neg (by simp)]
  simp [g0]
 ·rw [w0,q1b.eq_1,if_pos (by simp)]
  have h : qh (ins q a b c d).stops.l 1 = some (stp c d false) := rfl
  simp only [h,Option.bind_eq_bind,Option.bind_some]
  rw [if_neg (by simp),qt5 0 (.inl rfl)]
  simp only [Option.bind_some]
  rw [q1b.eq_1,if_neg (by simp)]
  simp
theorem qbf (x y : T.Span) : q2p x y = some (decide (y.frm ≤ x.frm ∧ x.to ≤ y.to)) := by
 unfold q2p
 by_cases h : y.frm ≤ x.frm
 ·rw [if_pos (by simpa using h)]
  simp [h]
 ·rw [if_neg (by simpa using h)]
  simp [h]
theorem zd0 (n : Int) (h : 0 ≤ a ∧ a ≤ b ∧ b ≤ c ∧ c ≤ d ∧ d ≤ q ∧ q ≤ n) : q4d (ins q a b c d) n = some true := by
 obtain ⟨h1,h2,h3,h4,h5,h6⟩ := h
 unfold q4d q4k
 rw [if_pos (by simp only [Bool.and_eq_true,decide_eq_true_eq]; omega)]
 simp only [Option.bind_eq_bind,Option.bind_some]
 rw [if_neg (by simp; omega)]
 rw [show ((ins q a b c d).stops.l.length : Int) = 2 from rfl]
 rw [q0h.eq_1,if_pos (by simp)]
 rw [show qh (ins q a b c d).stops.l 0 = some (stp a b true) from rfl]
 simp only [Option.bind_eq_bind,Option.bind_some,qfg 0 (.inl rfl),qbf]
 rw [if_neg (by simp; omega),if_neg (by simp),if_neg (by simp [q3h,yh]; omega),w1]
 rw [q0h.eq_1,if_pos (by simp)]
 rw [show qh (ins q a b c d).stops.l 1 = some (stp c d false) from rfl]
 simp only [Option.bind_eq_bind,Option.bind_some,qfg 1 (.inr rfl),qbf]
 rw [if_neg (by simp; omega),if_neg (by simp),if_neg (by simp [q3h,yu,q0w,yh]; omega),w2]
 rw [q0h.eq_1,if_neg (by simp)]
 rfl
def spL (k a b c d : Int) : List T.Span := if k = 3 then [⟨a,b⟩,⟨c,d⟩] else []
theorem qbo (hk : k = 3 ∨ k = 4) : ∃ z,q2w k ⟨false,[ins q a b c d]⟩ = some ⟨z,spL k a b c d⟩ := by
 unfold q2w
 rw [show ((⟨false,[ins q a b c d]⟩ : Sl T.qc).l.length : Int) = 1 from rfl]
 rw [q1p.eq_1,if_pos (by simp),g0]
 simp only [Option.bind_eq_bind,Option.bind_some]
 rw [show ((ins q a b c d).stops.l.length : Int) = 2 from rfl]
 rcases hk with rfl | rfl
 ·refine ⟨false, ?_⟩
  rw [u6.eq_1,if_pos (by simp),show qh (ins q a b c d).stops.l 0 = some (stp a b true) from rfl]
  simp only [Option.bind_eq_bind,Option.bind_some]
  rw [if_pos (by simp),if_pos (q82 (by simp) (by omega)),w1]
  rw [u6.eq_1,if_pos (by simp),show qh (ins q a b c d).stops.l 1 = some (stp c d false) from rfl]
  simp only [Option.bind_eq_bind,Option.bind_some]
  rw [if_pos (by simp),if_pos (q82 (by simp) (by omega)),w2]
  rw [u6.eq_1,if_neg (by simp)]
  simp only [Option.bind_some]
  rw [q1p.eq_1,if_neg (by simp)]
  rfl
 ·refine ⟨true, ?_⟩
  rw [u6.eq_1,if_pos (by simp),show qh (ins q a b c d).stops.l 0 = some (stp a b true) from rfl]
  simp only [Option.bind_eq_bind,Option.bind_some]
  rw [if_neg (by simp),w1]
  rw [u6.eq_1,if_pos (by simp),show qh (ins q a b c d).stops.l 1 = some (stp c d false) from rfl]
  simp only [Option.bind_eq_bind,Option.bind_some]
  rw [if_neg (by simp),w2]
  rw [u6.eq_1,if_neg (by simp)]
  simp only [Option.bind_some]
  rw [q1p.eq_1,if_neg (by simp)]
  rfl
theorem zt5 (x : T.Sel) : q5g [x] = some [x] := by
 have h1 : q4j 0 1 [x] = some [x] := by
  unfold q4j
  rw [w1,q44.eq_1,if_neg (by decide)]
  rfl
 unfold q5g q7p
 rw [l1,q4s.eq_1,if_neg (by decide)]
 simp only [Option.bind_eq_bind,Option.bind_some,h1]
 rw [q4p.eq_1,if_neg (by decide)]
 rfl
theorem qf6 (n : Int) (hn : 0 ≤ n) : q4i n j4 = some (j4,0) := by
 unfold q4i
 rw [if_neg (by simp),if_neg (by simp)]
 rw [show (j4.l.length : Int) = 1 from rfl]
 rw [q3g.eq_1,if_pos (by simp),g0]
 simp only [Option.bind_eq_bind,Option.bind_some,q02,w1]
 unfold q4k
 rw [if_pos (by simp)]
 simp only [Option.bind_some]
 rw [if_neg (by simp; omega)]
 rw [q3g.eq_1,if_neg (by simp)]
 simp only [Option.bind_some]
 have : q6e j4 = some j4 := by
  unfold q6e q81
  rw [if_neg (by simp),if_pos (q82 (by simp) (by omega))]
  simp only [Option.bind_eq_bind,Option.bind_some,zt5,l1]
  rw [tu.eq_1,if_pos (by simp),g0]
  simp only [Option.bind_eq_bind,Option.bind_some]
  rw [if_pos (by decide),if_pos (q82 (by simp) (by omega)),w1,tu.eq_1,if_neg (by simp)]
  rfl
 rw [this]
 rfl
theorem eq0 : q3x j4 j4 = some true := by
 unfold q3x
 rw [if_neg (by simp)]
 rw [show (j4.l.length : Int) = 1 from rfl]
 rw [q2n.eq_1,if_pos (by simp),g0]
 simp only [Option.bind_eq_bind,Option.bind_some]
 rw [if_neg (by simp),w1,q2n.eq_1,if_neg (by simp)]
 rfl
theorem zlh (B : Bytes) (hB : B.length ≤ 60000) (hk : k = 3 ∨ k = 4) (h : 0 ≤ a ∧ a ≤ b ∧ b ≤ c ∧ c ≤ d ∧ d ≤ q ∧ q ≤ (B.length : Int)) : q6n B j4 [ses k q a b c d] = some true := by
 unfold q6n
 rw [qf6 _ (by omega)]
 simp only [Option.bind_eq_bind,Option.bind_some]
 rw [if_neg (by simp; omega),eq0]
 simp only [Option.bind_some]
 rw [if_neg (by simp),l1]
 rw [q2h.eq_1,if_pos (by simp),g0]
 simp only [Option.bind_eq_bind,Option.bind_some]
 rw [if_neg (by simp)]
 rw [show ((ses k q a b c d).insts.l.length : Int) = 1 from rfl]
 rw [q1t.eq_1,if_pos (by simp),show qh (ses k q a b c d).insts.l 0 = some (ins q a b c d) from rfl]
 simp only [Option.bind_eq_bind,Option.bind_some,zd0 _ h]
 rw [if_neg (by simp),if_neg (by simp),w1,q1t.eq_1,if_neg (by simp)]
 simp only [Option.bind_some]
 obtain ⟨z,hz⟩ := qbo (q := q) (a := a) (b := b) (c := c) (d := d) hk
 rw [hz]
 simp only [Option.bind_some]
 rw [q2h.eq_1,if_neg (by simp)]
 rfl
theorem nums : q4e ⟨false,[ins q a b c d]⟩ = some [3] := by
 unfold q4e
 rw [show ((⟨false,[ins q a b c d]⟩ : Sl T.qc).l.length : Int) = 1 from rfl]
 rw [q36.eq_1,if_pos (by simp),g0]
 simp only [Option.bind_eq_bind,Option.bind_some]
 rw [show ((ins q a b c d).stops.l.length : Int) = 2 from rfl]
 rw [q11.eq_1,if_pos (by simp),show qh (ins q a b c d).stops.l 0 = some (stp a b true) from rfl]
 simp only [Option.bind_eq_bind,Option.bind_some]
 rw [if_pos (by simp),w1]
 rw [q11.eq_1,if_pos (by simp),show qh (ins q a b c d).stops.l 1 = some (stp c d false) from rfl]
 simp only [Option.bind_eq_bind,Option.bind_some]
 rw [if_pos (by simp),w2]
 rw [q11.eq_1,if_neg (by simp)]
 simp only [Option.bind_some]
 rw [q36.eq_1,if_neg (by simp)]
 simp only [Option.bind_some,q79]
 decide
end Go.Proofs.YtcelddmcoklooaaGreatDoor
