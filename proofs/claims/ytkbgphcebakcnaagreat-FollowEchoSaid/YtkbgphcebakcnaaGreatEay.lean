/-
  What is begun with: the sessions as they are, no stop held; and what is told of them in the end.
-/
import Derived.Test.YtkbgphcebakcnaaGreatEax
set_option linter.unusedSimpArgs false
set_option linter.unusedVariables false
namespace Go.Proofs.YtkbgphcebakcnaaGreat
open Go Go.Gm
variable {q a b c d : Int}
theorem qnm : q3t zRx = some zRx := by
 rw [q3t.eq_1]
 unfold qam
 rw [show zRx.rows.nil = true from rfl,if_pos rfl]
 simp only [Option.bind_eq_bind,bnd]
 rw [q5f.eq_1,if_neg (by decide)]
 rfl
theorem qhr : q79 qa5 = some qa5 := by
 unfold q79 qa8
 rw [show qa5.rx = zRx from rfl,qnm]
 rfl
theorem qjs : q55 (ses q a b c d) = some (ses q a b c d) := by
 unfold q55
 rw [show ((ses q a b c d).insts.l.length : Int) = 1 from rfl,q3k.eq_1,if_pos (by decide)]
 rw [show q9 (ses q a b c d).insts.l 0 = some (ins q a b c d) from rfl]
 simp only [Option.bind_eq_bind,bnd]
 rw [show ((ins q a b c d).stops.l.length : Int) = 2 from rfl,q1u.eq_1,if_pos (by decide)]
 rw [show q9 (ins q a b c d).stops.l 0 = some (stp a b true) from rfl]
 simp only [Option.bind_eq_bind,bnd]
 unfold q8d
 rw [qhr]
 simp only [bnd]
 rw [if_pos (by trivial)]
 simp only [bnd]
 rw [if_pos (xc (by simp)),w1,q1u.eq_1,if_pos (by decide)]
 rw [show q9 (ins q a b c d).stops.l 1 = some (stp c d false) from rfl]
 simp only [Option.bind_eq_bind,bnd]
 unfold q8d
 rw [qhr]
 simp only [bnd]
 rw [if_pos (by trivial)]
 simp only [bnd]
 rw [if_pos (xc (by simp)),w2,q1u.eq_1,if_neg (by decide)]
 simp only [bnd]
 rw [if_pos (xc (by simp)),q3k.eq_1,if_neg (by decide)]
 rfl
theorem beg : q5t (ses q a b c d) = some (lv q a b c d false false) := by
 unfold q5t
 rw [qjs]
 simp only [Option.bind_eq_bind,bnd]
 rw [show ((ses q a b c d).insts.l.length : Int) = 1 from rfl,q47.eq_1,if_pos (by decide)]
 rw [show q9 (ses q a b c d).insts.l 0 = some (ins q a b c d) from rfl]
 simp only [Option.bind_eq_bind,bnd]
 rw [show ((ins q a b c d).stops.l.length : Int) = 2 from rfl,if_pos (by decide),if_pos (by decide)]
 rw [show ((List.replicate (2 : Int).toNat (T.qd.mk (0 : Int) false)).length : Int) = 2 from rfl]
 rw [show List.replicate (2 : Int).toNat (T.qd.mk (0 : Int) false) = [⟨0,false⟩,⟨0,false⟩] from rfl]
 rw [q1i.eq_1,if_pos (by decide),g0]
 simp only [Option.bind_eq_bind,bnd]
 rw [w1,q1i.eq_1,if_pos (by decide)]
 rw [show q9 (([⟨0,false⟩,⟨0,false⟩] : List T.qd).set (0 : Int).toNat ⟨0,false⟩) 1 = some ⟨0,false⟩ from rfl]
 simp only [Option.bind_eq_bind,bnd]
 rw [w2,q1i.eq_1,if_neg (by decide)]
 simp only [bnd]
 rw [if_pos (xc (by simp)),q47.eq_1,if_neg (by decide)]
 rfl
theorem begun (s : Bytes) : q80 (sta s q a b c d) = some (.inr (s,[⟨0,0⟩],[lv q a b c d false false])) := by
 unfold q80 q0m
 rw [show (sta s q a b c d).sels.nil = false from rfl,if_neg (by simp),if_pos (xc (by simp))]
 simp only [Option.bind_eq_bind,bnd]
 rw [show ((sta s q a b c d).sessions.l.length : Int) = 1 from rfl,q2q.eq_1,if_pos (by decide)]
 rw [show q9 (sta s q a b c d).sessions.l 0 = some (ses q a b c d) from rfl]
 unfold q9d
 simp only [Option.bind_eq_bind,bnd,beg]
 rw [if_pos (xc (by simp))]
 simp only [bnd]
 rw [w1,q2q.eq_1,if_neg (by decide)]
 rfl
theorem leaves (e : T.qb) (w : Bytes) (s : List T.Sel) (f g : Bool) (i k : Int) (ho : kg (ses q a b c d) e.span = some (i,k)) (hk : 0 ≤ k) : q7c ⟨false,[e]⟩ w s [lv q a b c d f g] = some () := by
 unfold q7c q9l
 rw [l1,if_pos (by decide),show IntKind.i64.wrap (1 - 1 : Int) = 0 from w0,g0]
 simp only [Option.bind_eq_bind,bnd]
 have : q4l (lv q a b c d f g).session ⟨false,[e]⟩ = some true := by
  unfold q4l
  rw [show ((⟨false,[e]⟩ : Sl T.qb).l.length : Int) = 1 from rfl,q2o.eq_1,if_pos (by decide),g0]
  simp only [Option.bind_eq_bind,bnd]
  rw [ho]
  simp only [bnd]
  rw [if_neg (by simp; omega),w1,q2o.eq_1,if_neg (by decide)]
  rfl
 rw [this]
 rfl
theorem qhy (e : T.qb) (w : Bytes) (s : T.Sel) (l : T.qc) (i k : Int) (ho : kg l.session e.span = some (i,k)) (r : Bytes × Sl T.Sel × List T.qc) (h : ky 0 i k e true w ⟨false,[s]⟩ [l] = some r) :
  q6v ⟨false,[e]⟩ w [s] [l] = some r := by
 unfold q6v
 rw [qas]
 simp only [Option.bind_eq_bind,bnd]
 rw [q98]
 simp only [bnd]
 rw [l1,q1s.eq_1,if_pos (by decide),g0]
 simp only [Option.bind_eq_bind,bnd]
 rw [l1,show IntKind.i64.wrap (1 - 1 : Int) = 0 from w0,if_pos (by decide),g0]
 simp only [bnd,ho,h]
 rw [w1,q1s.eq_1,if_neg (by decide)]
 rfl
theorem settled (w : Bytes) (s : Sl T.Sel) (f g : Bool) : q4u w s [lv q a b c d f g] = some [lv q a b c d f g] := by
 unfold q4u
 rw [l1,q3l.eq_1,if_pos (by decide),g0]
 simp only [Option.bind_eq_bind,bnd]
 rw [show ((lv q a b c d f g).session.insts.l.length : Int) = 1 from rfl,q0k.eq_1,if_pos (by decide)]
 rw [show q9 (lv q a b c d f g).session.insts.l 0 = some (ins q a b c d) from rfl]
 simp only [Option.bind_eq_bind,bnd]
 rw [if_pos (by decide),if_pos (xc (by simp)),g0]
 simp only [bnd]
 rw [show q9 (lv q a b c d f g).marks.l 0 = some (mrk f g) from rfl]
 simp only [bnd]
 rw [if_pos (xc (by simp)),w1,q0k.eq_1,if_neg (by decide)]
 simp only [bnd]
 rw [show ([] ++ [ins q a b c d]) = [ins q a b c d] from rfl,show ([ins q a b c d] : List T.qa).isEmpty = false from rfl]
 rw [qg9]
 simp only [bnd]
 rw [if_neg (by simp),q3l.eq_1,if_neg (by decide)]
 rfl
theorem stated (w : Bytes) (s : T.Sel) (f g : Bool) : q4v w ⟨false,[s]⟩ [lv q a b c d f g] = some ⟨w,⟨false,[s]⟩,⟨false,[ses q a b c d]⟩⟩ := by
 unfold q4v
 rw [l1,q44.eq_1,if_pos (by decide),g0]
 simp only [Option.bind_eq_bind,bnd]
 rw [if_pos (xc (by simp)),w1,q44.eq_1,if_neg (by decide)]
 simp only [bnd]
 rw [show ([] ++ [(lv q a b c d f g).session] : List T.qf) = [ses q a b c d] from rfl]
 unfold q95
 rw [l1,q3e.eq_1,if_pos (by decide),g0]
 simp only [Option.bind_eq_bind,bnd,qjs]
 rw [if_pos (xc (by simp)),w1,q3e.eq_1,if_neg (by decide)]
 simp only [bnd]
 unfold q0m
 rw [if_neg (by simp),if_pos (xc (by simp))]
 rfl
end Go.Proofs.YtkbgphcebakcnaaGreat
