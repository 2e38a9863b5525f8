/-
  What was typed in one of two stops is laid in the other.
-/
import Derived.Test.YtkbgphcebakcnaaGreatEay
set_option linter.unusedSimpArgs false
set_option linter.unusedVariables false
namespace Go.Proofs.YtkbgphcebakcnaaGreat
open Go Go.Gm
variable {q a b c d : Int}
abbrev two : ze := ⟨[(1,2,0)],1⟩
theorem qx1 : q7v (ins q a b c d) = some ⟨false,[1]⟩ := by
 unfold q7v
 rw [show ((ins q a b c d).stops.l.length : Int) = 2 from rfl,q1w.eq_1,if_pos (by decide)]
 rw [show q9 (ins q a b c d).stops.l 0 = some (stp a b true) from rfl]
 simp only [Option.bind_eq_bind,bnd]
 rw [w1,q1w.eq_1,if_pos (by decide)]
 rw [show q9 (ins q a b c d).stops.l 1 = some (stp c d false) from rfl]
 simp only [Option.bind_eq_bind,bnd]
 rw [w2,q1w.eq_1,if_neg (by decide)]
 rw [show vw (vw ⟨[],0⟩ 1 (IntKind.i64.wrap (xy ⟨[],0⟩ 1 + 1))) 1 (IntKind.i64.wrap (xy (vw ⟨[],0⟩ 1 (IntKind.i64.wrap (xy ⟨[],0⟩ 1 + 1))) 1 + 1)) = two from by rw [show IntKind.i64.wrap (xy ⟨[],0⟩ 1 + 1) = 1 from by decide,show IntKind.i64.wrap (xy (vw ⟨[],0⟩ 1 1) 1 + 1) = 2 from by decide]; rfl]
 simp only [bnd]
 rw [q3i.eq_1,if_pos (by decide)]
 have hk : q7t two = some [1] := by decide +kernel
 have hw : q74 (ins q a b c d) two = some ⟨[],0⟩ := by
  unfold q74
  rw [show ((ins q a b c d).stops.l.length : Int) = 2 from rfl,q0y.eq_1,if_pos (by decide)]
  rw [show q9 (ins q a b c d).stops.l 0 = some (stp a b true) from rfl]
  simp only [Option.bind_eq_bind,bnd]
  rw [if_neg (by decide),qdt 0 (.inl rfl)]
  simp only [bnd]
  rw [q26.eq_1,if_neg (by decide)]
  simp only [bnd]
  rw [w1,q0y.eq_1,if_pos (by decide)]
  rw [show q9 (ins q a b c d).stops.l 1 = some (stp c d false) from rfl]
  simp only [Option.bind_eq_bind,bnd]
  rw [if_neg (by decide),qdt 1 (.inr rfl)]
  simp only [bnd]
  rw [q26.eq_1,if_neg (by decide)]
  simp only [bnd]
  rw [w2,q0y.eq_1,if_neg (by decide)]
  rfl
 unfold qaf
 simp only [Option.bind_eq_bind,bnd,hk,hw]
 have hi : q7a ⟨([1] : List Int).isEmpty,[1]⟩ ⟨[],0⟩ = some 0 := by
  unfold q7a
  rw [l1,q5q.eq_1,if_pos (by decide),g0]
  unfold qap
  simp only [Option.bind_eq_bind,bnd]
  rw [if_pos (by decide)]
  rfl
 rw [hi]
 simp only [bnd]
 rw [if_neg (by decide),g0]
 simp only [bnd]
 rw [if_pos (xc (by simp)),q3i.eq_1,if_neg (by decide)]
 rfl
theorem qf2 (n : Int) (held : Sl Bool) (of first any_ : Int) : jy (n,held,of,first,any_,-1,ins q a b c d) = some (of,first,any_) := by
 rw [jy.eq_1,if_neg (by decide)]
theorem source (f g : Bool) (h : f ≠ g) : q86 (ins q a b c d) 1 ⟨false,[f,g]⟩ = some (if f then 0 else 1) := by
 unfold q86
 rw [show ((ins q a b c d).stops.l.length : Int) = 2 from rfl,show IntKind.i64.wrap (2 - 1 : Int) = 1 from by decide]
 rw [jy.eq_1,if_pos (by decide),show q9 (ins q a b c d).stops.l 1 = some (stp c d false) from rfl]
 simp only [Option.bind_eq_bind,bnd]
 rw [if_neg (by simp),if_neg (by simp),if_pos (by simp),w0,g1]
 simp only [bnd]
 cases f <;> cases g
 ·exact absurd rfl h
 ·rw [if_pos rfl,jy.eq_1,if_pos (by decide),show q9 (ins q a b c d).stops.l 0 = some (stp a b true) from rfl]
  simp only [Option.bind_eq_bind,bnd]
  rw [if_neg (by simp),if_pos (by simp),if_pos (by simp),g0]
  simp only [bnd]
  rw [if_neg (by simp),wm,qf2]
  rfl
 ·rw [if_neg (by simp),jy.eq_1,if_pos (by decide),show q9 (ins q a b c d).stops.l 0 = some (stp a b true) from rfl]
  simp only [Option.bind_eq_bind,bnd]
  rw [if_neg (by simp),if_pos (by simp),if_pos (by simp),g0]
  simp only [bnd]
  rw [if_pos trivial,wm,qf2]
  rfl
 ·exact absurd rfl h
theorem qfb (w : Bytes) (s : Sl T.Sel) (l : List T.qc) (i : T.qa) (f g : Bool) : q0l (0,0,1,mrk f g,mrk f g,2,0,w,s,l,i,List.replicate (2 : Int).toNat false) = some [f,g] := by
 rw [show List.replicate (2 : Int).toNat false = [false,false] from rfl]
 rw [q0l.eq_1,if_pos (by decide),show q9 (mrk f g).l 0 = some ⟨0,f⟩ from rfl,g0]
 simp only [Option.bind_eq_bind,bnd]
 rw [w1,q0l.eq_1,if_pos (by decide),show q9 (mrk f g).l 1 = some ⟨1,g⟩ from rfl]
 rw [show q9 (([false,false] : List Bool).set (0 : Int).toNat f) 1 = some false from rfl]
 simp only [Option.bind_eq_bind,bnd]
 rw [w2,q0l.eq_1,if_neg (by decide)]
 rfl
theorem qif (text w : Bytes) (s : Sl T.Sel) (i : T.qa) (f g : Bool) (k : Int) (hk : k = 0 ∨ k = 1) :
  jd (0,0,1,text,k,k,w,s,[lv q a b c d f g],i) = jd (0,0,1,text,k,IntKind.i64.wrap (k + 1),w,s,[lv q a b c d f g],i) := by
 rw [jd.eq_1,g0]
 simp only [Option.bind_eq_bind,bnd]
 rw [show q9 (lv q a b c d f g).session.insts.l 0 = some (ins q a b c d) from rfl]
 simp only [bnd]
 rcases hk with rfl | rfl
 ·rw [if_pos (by simp),show q9 (ins q a b c d).stops.l 0 = some (stp a b true) from rfl]
  simp only [bnd]
  rw [if_neg (by simp),show q9 (lv q a b c d f g).marks.l 0 = some (mrk f g) from rfl]
  simp only [bnd]
  rw [show q9 (mrk f g).l 0 = some ⟨0,f⟩ from rfl]
  simp only [bnd]
  rw [if_pos (by decide)]
 ·rw [if_pos (by simp),show q9 (ins q a b c d).stops.l 1 = some (stp c d false) from rfl]
  simp only [bnd]
  rw [if_neg (by simp),show q9 (lv q a b c d f g).marks.l 0 = some (mrk f g) from rfl]
  simp only [bnd]
  rw [show q9 (mrk f g).l 1 = some ⟨1,g⟩ from rfl]
  simp only [bnd]
  rw [if_pos (by decide)]
theorem qgo (text w : Bytes) (s : Sl T.Sel) (i : T.qa) (f g : Bool) (id : Int) :
  jd (0,0,1,text,id,2,w,s,[lv q a b c d f g],i) = some (.inr (w,s,[lv q a b c d f g])) := by
 rw [jd.eq_1,g0]
 simp only [Option.bind_eq_bind,bnd]
 rw [show q9 (lv q a b c d f g).session.insts.l 0 = some (ins q a b c d) from rfl]
 simp only [bnd]
 rw [if_neg (by simp)]
end Go.Proofs.YtkbgphcebakcnaaGreat
