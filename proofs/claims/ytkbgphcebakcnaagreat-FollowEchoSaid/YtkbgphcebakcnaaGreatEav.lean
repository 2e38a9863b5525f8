/-
  One edit in one of two stops: what is asked of each, and where they come to lie.
-/
import Derived.Test.YtkbgphcebakcnaaGreatEau
set_option linter.unusedSimpArgs false
set_option linter.unusedVariables false
namespace Go.Proofs.YtkbgphcebakcnaaGreat
open Go Go.Gm
theorem g2 {α : Type} (x y z : α) (r : List α) : q9 (x :: y :: z :: r) 2 = some z := rfl
variable {q a b c d : Int}
theorem upk (k : Int) (hk : k = 0 ∨ k = 1) : q0d (ins q a b c d) k = some (-1) := by
 unfold q0d
 rcases hk with rfl | rfl
 ·rw [show q9 (ins q a b c d).stops.l 0 = some (stp a b true) from rfl]
  rfl
 ·rw [show q9 (ins q a b c d).stops.l 1 = some (stp c d false) from rfl]
  rfl
theorem zpd (deep : Bool) (x y : Int) (t : Bytes) : q3r (ins q a b c d) 0 deep x y t 0 0 [0,0,0] = some (1,[1,1,0]) := by
 unfold q3r
 rw [if_pos (by decide),g0]
 simp only [Option.bind_eq_bind,Option.bind_some]
 rw [q0o.eq_1,if_pos (by decide),w1]
 rw [show q9 (([0,0,0] : List Int).set (Int.toNat 0) 1) 1 = some 0 from rfl]
 simp only [Option.bind_eq_bind,Option.bind_some,upk 0 (.inl rfl)]
 rw [q0o.eq_1,if_neg (by decide)]
 simp only [Option.bind_some]
 rw [show ((ins q a b c d).stops.l.length : Int) = 2 from rfl,if_pos (by decide),if_pos (by decide)]
 rw [show q9 (List.replicate (2 : Int).toNat false) 0 = some false from rfl]
 simp only [Option.bind_some]
 rw [w9.eq_1]
 by_cases hd : deep = true
 ·rw [if_pos (by simp [hd]),upk 1 (.inr rfl)]
  simp only [Option.bind_eq_bind,Option.bind_some]
  rw [if_neg (by decide),show q9 ((List.replicate (2 : Int).toNat false).set (0 : Int).toNat true) 1 = some false from rfl]
  simp only [Option.bind_some]
  rw [show q9 ((((List.replicate (2 : Int).toNat false).set (0 : Int).toNat true)).set (1 : Int).toNat false) 1 = some false from rfl]
  simp only [Option.bind_some]
  rw [if_neg (by decide),w2,w9.eq_1,if_neg (by simp)]
  rfl
 ·rw [if_neg (by simp [hd])]
  rfl
theorem zk9 (deep : Bool) (x y : Int) (t : Bytes) : q3r (ins q a b c d) 1 deep x y t 0 0 [0,0,0] = some (2,[1,0,1]) := by
 unfold q3r
 rw [if_pos (by decide),g0]
 simp only [Option.bind_eq_bind,Option.bind_some]
 rw [q0o.eq_1,if_pos (by decide),w2]
 rw [show q9 (([0,0,0] : List Int).set (Int.toNat 0) 1) 2 = some 0 from rfl]
 simp only [Option.bind_eq_bind,Option.bind_some,upk 1 (.inr rfl)]
 rw [q0o.eq_1,if_neg (by decide)]
 simp only [Option.bind_some]
 rw [show ((ins q a b c d).stops.l.length : Int) = 2 from rfl,if_pos (by decide),if_pos (by decide)]
 rw [show q9 (List.replicate (2 : Int).toNat false) 1 = some false from rfl]
 simp only [Option.bind_some]
 rw [w9.eq_1,if_neg (by simp)]
 rfl
theorem qon (u v x y : Int) (t : Bytes) (p : Int) (does : List Int) (pl : Int) (h : ¬ (u < y ∧ v > x)) (h2 : v > x) : q21 ⟨u,v⟩ 1 0 pl x y t 0 p does = some 4 := by
 unfold q21
 rw [if_neg (by decide),if_neg (by simpa using h),if_neg (by simp; omega)]
theorem qqz (u v x y : Int) (t : Bytes) (p : Int) (does : List Int) (pl : Int) (h : v < x) : q21 ⟨u,v⟩ 1 0 pl x y t 0 p does = some 3 := by
 unfold q21
 rw [if_neg (by decide),if_neg (by simp; omega),if_pos (by simp; omega)]
theorem qy5 (x y : Int) (t : Bytes) (p : Int) (h : y < c ∧ x < d) : q3h (ins q a b c d) 0 x y t 0 p [1,1,0] = some [1,1,4] := by
 unfold q3h
 rw [if_pos (by decide),g0]
 simp only [Option.bind_eq_bind,Option.bind_some]
 rw [if_neg (by decide),show ((ins q a b c d).stops.l.length : Int) = 2 from rfl]
 rw [yc.eq_1,if_pos (by decide),show q9 (ins q a b c d).stops.l 0 = some (stp a b true) from rfl,w1,g1]
 simp only [Option.bind_eq_bind,Option.bind_some]
 rw [if_neg (by decide)]
 rw [yc.eq_1,if_pos (by decide),show q9 (ins q a b c d).stops.l 1 = some (stp c d false) from rfl,w2,g2]
 simp only [Option.bind_eq_bind,Option.bind_some]
 rw [if_pos (by decide),upk 1 (.inr rfl)]
 simp only [Option.bind_some]
 rw [show IntKind.i64.wrap ((-1 : Int) + 1) = 0 from by decide,g0]
 simp only [Option.bind_some]
 rw [qon c d x y t p _ _ (by omega) (by omega)]
 simp only [Option.bind_some]
 rw [yc.eq_1,if_neg (by decide)]
 rfl
theorem zmf (x y : Int) (t : Bytes) (p : Int) (h : b < x) : q3h (ins q a b c d) 0 x y t 0 p [1,0,1] = some [1,3,1] := by
 unfold q3h
 rw [if_pos (by decide),g0]
 simp only [Option.bind_eq_bind,Option.bind_some]
 rw [if_neg (by decide),show ((ins q a b c d).stops.l.length : Int) = 2 from rfl]
 rw [yc.eq_1,if_pos (by decide),show q9 (ins q a b c d).stops.l 0 = some (stp a b true) from rfl,w1,g1]
 simp only [Option.bind_eq_bind,Option.bind_some]
 rw [if_pos (by decide),upk 0 (.inl rfl)]
 simp only [Option.bind_some]
 rw [show IntKind.i64.wrap ((-1 : Int) + 1) = 0 from by decide,g0]
 simp only [Option.bind_some]
 rw [qqz a b x y t p _ _ (by omega)]
 simp only [Option.bind_some]
 rw [yc.eq_1,if_pos (by decide),show q9 (ins q a b c d).stops.l 1 = some (stp c d false) from rfl,w2]
 rw [show q9 (([1,0,1] : List Int).set (1 : Int).toNat 3) 2 = some 1 from rfl]
 simp only [Option.bind_eq_bind,Option.bind_some]
 rw [if_neg (by decide)]
 rw [yc.eq_1,if_neg (by decide)]
 rfl
theorem qne (deep : Bool) (x y : Int) (t : Bytes) (h : y < c ∧ x < d) : q46 (ses q a b c d) 0 0 ⟨⟨x,y⟩,t⟩ deep = some (.inl (x,y,t,0,1,[1,1,4])) := by
 unfold q46 q81
 rw [show ((ses q a b c d).insts.l.length : Int) = 1 from rfl,show q9 (ses q a b c d).insts.l 0 = some (ins q a b c d) from rfl]
 rw [if_pos (by decide)]
 simp only [Option.bind_eq_bind,Option.bind_some]
 rw [show IntKind.i64.wrap (((ins q a b c d).stops.l.length : Int) + 1) = 3 from by rw [show ((ins q a b c d).stops.l.length : Int) = 2 from rfl]; decide]
 rw [if_pos (by decide),if_pos (by decide),if_pos (by decide),w1]
 unfold q8l
 rw [if_neg (by decide)]
 simp only [Option.bind_some]
 rw [if_pos (by decide)]
 rw [show ((ins q a b c d).stops.l.length : Int) = 2 from rfl,if_pos (by decide),show List.replicate (3 : Int).toNat (0 : Int) = [0,0,0] from rfl,zpd]
 simp only [Option.bind_some]
 rw [nk.eq_1,if_pos (by decide),show q9 (ses q a b c d).insts.l 0 = some (ins q a b c d) from rfl]
 simp only [Option.bind_eq_bind,Option.bind_some,qy5 x y t 1 h]
 rw [nk.eq_1,w1,if_neg (by decide)]
 rfl
theorem qyw (deep : Bool) (x y : Int) (t : Bytes) (h : b < x) : q46 (ses q a b c d) 0 1 ⟨⟨x,y⟩,t⟩ deep = some (.inl (x,y,t,0,2,[1,3,1])) := by
 unfold q46 q81
 rw [show ((ses q a b c d).insts.l.length : Int) = 1 from rfl,show q9 (ses q a b c d).insts.l 0 = some (ins q a b c d) from rfl]
 rw [if_pos (by decide)]
 simp only [Option.bind_eq_bind,Option.bind_some]
 rw [show IntKind.i64.wrap (((ins q a b c d).stops.l.length : Int) + 1) = 3 from by rw [show ((ins q a b c d).stops.l.length : Int) = 2 from rfl]; decide]
 rw [if_pos (by decide),if_pos (by decide),if_pos (by decide),w1]
 unfold q8l
 rw [if_neg (by decide)]
 simp only [Option.bind_some]
 rw [if_pos (by decide)]
 rw [show ((ins q a b c d).stops.l.length : Int) = 2 from rfl,if_pos (by decide),show List.replicate (3 : Int).toNat (0 : Int) = [0,0,0] from rfl,zk9]
 simp only [Option.bind_some]
 rw [nk.eq_1,if_pos (by decide),show q9 (ses q a b c d).insts.l 0 = some (ins q a b c d) from rfl]
 simp only [Option.bind_eq_bind,Option.bind_some,zmf x y t 2 h]
 rw [nk.eq_1,w1,if_neg (by decide)]
 rfl
end Go.Proofs.YtkbgphcebakcnaaGreat
