/-
  A state of one session, one instance, two stops: it may be; who owns a stretch.
-/
import Derived.Test.YtkbgphcebakcnaaGreatEat
set_option linter.unusedSimpArgs false
set_option linter.unusedVariables false
namespace Go.Proofs.YtkbgphcebakcnaaGreat
open Go Go.Gm
abbrev zRx : T.Rx := T.Rx.mk 0 [] false ⟨true,[]⟩ 0 0 false ⟨true,[]⟩
abbrev qa5 : T.Form := T.Form.mk zRx ⟨true,[]⟩ false false
abbrev stp (a b : Int) (f : Bool) : T.Stop := T.Stop.mk ⟨a,b⟩ 1 (-1) f false qa5 ⟨true,[]⟩
abbrev sps (a b c d : Int) : List T.Stop := [stp a b true,stp c d false]
abbrev ins (q a b c d : Int) : T.qa := ⟨⟨0,q⟩,⟨false,sps a b c d⟩⟩
abbrev ses (q a b c d : Int) : T.qf := ⟨1,⟨false,[ins q a b c d]⟩⟩
abbrev sta (s : Bytes) (q a b c d : Int) : T.State := ⟨s,⟨false,[⟨0,0⟩]⟩,⟨false,[ses q a b c d]⟩⟩
theorem g0 {α : Type} (x : α) (r : List α) : q9 (x :: r) 0 = some x := rfl
theorem g1 {α : Type} (x y : α) (r : List α) : q9 (x :: y :: r) 1 = some y := rfl
theorem w1 : IntKind.i64.wrap ((0 : Int) + 1) = 1 := by decide
theorem w2 : IntKind.i64.wrap ((1 : Int) + 1) = 2 := by decide
theorem w0 : IntKind.i64.wrap ((1 : Int) - 1) = 0 := by decide
theorem wm : IntKind.i64.wrap ((0 : Int) - 1) = -1 := by decide
theorem l1 {α : Type} (x : α) : (([x] : List α).length : Int) = 1 := rfl
theorem l2 {α : Type} (x y : α) : (([x,y] : List α).length : Int) = 2 := rfl
variable {q a b c d : Int}
theorem qdt (k : Int) (hk : k = 0 ∨ k = 1) : q2f (ins q a b c d) k = some (-1) := by
 unfold q2f
 rcases hk with rfl | rfl
 ·simp [ins,sps,stp,g0]
 ·simp [ins,sps,stp,g1]
theorem qil (k : Int) (hk : k = 0 ∨ k = 1) : q6n (ins q a b c d) k = some true := by
 unfold q6n
 rcases hk with rfl | rfl
 ·rw [wm,q1v.eq_1,if_neg (by simp)]
  simp [ins,sps,stp,g0]
 ·rw [w0,q1v.eq_1,if_pos (by simp)]
  have h : q9 (ins q a b c d).stops.l 1 = some (stp c d false) := rfl
  simp only [h,Option.bind_eq_bind,Option.bind_some]
  rw [if_neg (by simp [stp]),qdt 0 (.inl rfl)]
  simp only [Option.bind_some]
  rw [q1v.eq_1,if_neg (by simp)]
  simp [stp]
theorem q87 (x y : T.Span) : q0x x y = some (decide (y.frm ≤ x.frm ∧ x.to ≤ y.to)) := by
 unfold q0x
 by_cases h : y.frm ≤ x.frm
 ·rw [if_pos (by simpa using h)]
  simp [h]
 ·rw [if_neg (by simpa using h)]
  simp [h]
theorem z3l (n : Int) (h : 0 ≤ a ∧ a ≤ b ∧ b ≤ c ∧ c ≤ d ∧ d ≤ q ∧ q ≤ n) : q7n (ins q a b c d) n = some true := by
 obtain ⟨h1,h2,h3,h4,h5,h6⟩ := h
 unfold q7n q1d
 rw [if_pos (by simp only [ins,Bool.and_eq_true,decide_eq_true_eq]; omega)]
 simp only [Option.bind_eq_bind,Option.bind_some]
 rw [if_neg (by simp [ins,sps]; omega)]
 rw [show ((ins q a b c d).stops.l.length : Int) = 2 from rfl]
 rw [q12.eq_1,if_pos (by simp)]
 rw [show q9 (ins q a b c d).stops.l 0 = some (stp a b true) from rfl]
 simp only [Option.bind_eq_bind,Option.bind_some,qil 0 (.inl rfl),q87]
 rw [if_neg (by simp; omega),if_neg (by simp [stp]),if_neg (by simp [stp,ins,q3m,yf]; omega),w1]
 rw [q12.eq_1,if_pos (by simp)]
 rw [show q9 (ins q a b c d).stops.l 1 = some (stp c d false) from rfl]
 simp only [Option.bind_eq_bind,Option.bind_some,qil 1 (.inr rfl),q87]
 rw [if_neg (by simp; omega),if_neg (by simp [stp]),if_neg (by simp [stp,ins,q3m,xy,vw,yf]; omega),w2]
 rw [q12.eq_1,if_neg (by simp)]
 rfl
theorem qg9 : q6f 1 ⟨false,[ins q a b c d]⟩ = some ⟨false,[⟨a,b⟩,⟨c,d⟩]⟩ := by
 unfold q6f
 rw [show ((⟨false,[ins q a b c d]⟩ : Sl T.qa).l.length : Int) = 1 from rfl]
 rw [q3o.eq_1,if_pos (by simp),g0]
 simp only [Option.bind_eq_bind,Option.bind_some]
 rw [show ((ins q a b c d).stops.l.length : Int) = 2 from rfl]
 rw [q10.eq_1,if_pos (by simp),show q9 (ins q a b c d).stops.l 0 = some (stp a b true) from rfl]
 simp only [Option.bind_eq_bind,Option.bind_some]
 rw [if_pos (by simp [stp]),if_pos (xc (by simp)),w1]
 rw [q10.eq_1,if_pos (by simp),show q9 (ins q a b c d).stops.l 1 = some (stp c d false) from rfl]
 simp only [Option.bind_eq_bind,Option.bind_some]
 rw [if_pos (by simp [stp]),if_pos (xc (by simp)),w2]
 rw [q10.eq_1,if_neg (by simp)]
 simp only [Option.bind_some]
 rw [q3o.eq_1,if_neg (by simp)]
 rfl
theorem zkl (n : Int) (hn : 0 ≤ n) : q7z n ⟨false,[⟨0,0⟩]⟩ = some (⟨false,[⟨0,0⟩]⟩,0) := by
 unfold q7z
 rw [if_neg (by simp),if_neg (by simp)]
 rw [show ((⟨false,[⟨0,0⟩]⟩ : Sl T.Sel).l.length : Int) = 1 from rfl]
 rw [q3a.eq_1,if_pos (by simp),g0]
 simp only [Option.bind_eq_bind,Option.bind_some,qg4,w1]
 unfold q1d
 rw [if_pos (by simp [mr])]
 simp only [Option.bind_some]
 rw [if_neg (by simp [mr]; omega)]
 rw [q3a.eq_1,if_neg (by simp)]
 simp only [Option.bind_some]
 have : q25 ⟨false,[⟨0,0⟩]⟩ = some ⟨false,[⟨0,0⟩]⟩ := by
  unfold q25 q0m
  rw [if_neg (by simp),if_pos (xc (by simp))]
  simp only [Option.bind_eq_bind,Option.bind_some]
  obtain ⟨r,h1,h2,_⟩ := qg0 [⟨0,0⟩] (by simp)
  have : r = [⟨0,0⟩] := List.perm_singleton.1 h2
  subst this
  rw [h1]
  simp only [Option.bind_some,l1]
  rw [yu.eq_1,if_pos (by simp),g0]
  simp only [Option.bind_eq_bind,Option.bind_some]
  rw [if_pos (by decide),if_pos (xc (by simp)),w1,yu.eq_1,if_neg (by simp)]
  rfl
 rw [this]
 rfl
theorem qf4 (s : Bytes) (hs : s.length ≤ 60000) (h : 0 ≤ a ∧ a ≤ b ∧ b ≤ c ∧ c ≤ d ∧ d ≤ q ∧ q ≤ (s.length : Int)) : q8s (sta s q a b c d) = some true := by
 unfold q8s
 rw [show (sta s q a b c d).sels = ⟨false,[⟨0,0⟩]⟩ from rfl,zkl _ (by omega)]
 simp only [Option.bind_eq_bind,Option.bind_some]
 rw [if_neg (by simp [sta]; omega)]
 have e : q7o ⟨false,[⟨0,0⟩]⟩ ⟨false,[⟨0,0⟩]⟩ = some true := by
  unfold q7o
  rw [if_neg (by simp)]
  rw [show ((⟨false,[⟨0,0⟩]⟩ : Sl T.Sel).l.length : Int) = 1 from rfl]
  rw [q3d.eq_1,if_pos (by simp),g0]
  simp only [Option.bind_eq_bind,Option.bind_some]
  rw [if_neg (by simp),w1,q3d.eq_1,if_neg (by simp)]
  rfl
 rw [e]
 simp only [Option.bind_some]
 rw [if_neg (by simp [sta])]
 rw [show ((sta s q a b c d).sessions.l.length : Int) = 1 from rfl]
 rw [q4a.eq_1,if_pos (by simp),show q9 (sta s q a b c d).sessions.l 0 = some (ses q a b c d) from rfl]
 simp only [Option.bind_eq_bind,Option.bind_some]
 rw [if_neg (by simp [ses])]
 rw [show ((ses q a b c d).insts.l.length : Int) = 1 from rfl]
 rw [q1m.eq_1,if_pos (by simp),show q9 (ses q a b c d).insts.l 0 = some (ins q a b c d) from rfl]
 simp only [Option.bind_eq_bind,Option.bind_some,z3l _ h,show (sta s q a b c d).text = s from rfl]
 rw [if_neg (by simp [ins]),if_neg (by simp),w1,q1m.eq_1,if_neg (by simp)]
 simp only [Option.bind_some]
 rw [qg9]
 simp only [Option.bind_some]
 rw [q4a.eq_1,if_neg (by simp)]
 rfl
theorem zgj (x y : Int) (h : a ≤ x ∧ y ≤ b) : kg (ses q a b c d) ⟨x,y⟩ = some (0,0) := by
 unfold kg
 rw [show ((ses q a b c d).insts.l.length : Int) = 1 from rfl]
 rw [q3c.eq_1,if_pos (by simp),show q9 (ses q a b c d).insts.l 0 = some (ins q a b c d) from rfl]
 simp only [Option.bind_eq_bind,Option.bind_some]
 rw [show ((ins q a b c d).stops.l.length : Int) = 2 from rfl]
 rw [q0h.eq_1,if_pos (by simp),show q9 (ins q a b c d).stops.l 0 = some (stp a b true) from rfl]
 simp only [Option.bind_eq_bind,Option.bind_some,q87]
 rw [if_pos (by simp [stp,ses]),if_pos (by simp only [stp,decide_eq_true_eq]; omega)]
 rfl
theorem qsl (x y : Int) (h : c ≤ x ∧ y ≤ d) (h2 : b < y) : kg (ses q a b c d) ⟨x,y⟩ = some (0,1) := by
 unfold kg
 rw [show ((ses q a b c d).insts.l.length : Int) = 1 from rfl]
 rw [q3c.eq_1,if_pos (by simp),show q9 (ses q a b c d).insts.l 0 = some (ins q a b c d) from rfl]
 simp only [Option.bind_eq_bind,Option.bind_some]
 rw [show ((ins q a b c d).stops.l.length : Int) = 2 from rfl]
 rw [q0h.eq_1,if_pos (by simp),show q9 (ins q a b c d).stops.l 0 = some (stp a b true) from rfl]
 simp only [Option.bind_eq_bind,Option.bind_some,q87]
 rw [if_pos (by simp [stp,ses]),if_neg (by simp only [stp,decide_eq_true_eq]; omega),w1]
 rw [q0h.eq_1,if_pos (by simp),show q9 (ins q a b c d).stops.l 1 = some (stp c d false) from rfl]
 simp only [Option.bind_eq_bind,Option.bind_some,q87]
 rw [if_pos (by simp [stp,ses]),if_pos (by simp only [stp,decide_eq_true_eq]; omega)]
 rfl
end Go.Proofs.YtkbgphcebakcnaaGreat
