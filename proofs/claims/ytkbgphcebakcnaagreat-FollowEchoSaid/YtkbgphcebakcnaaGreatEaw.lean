/-
  One edit in one of two stops: all that is held of them is moved.
-/
import Derived.Test.YtkbgphcebakcnaaGreatEav
set_option linter.unusedSimpArgs false
set_option linter.unusedVariables false
namespace Go.Proofs.YtkbgphcebakcnaaGreat
open Go Go.Gm
theorem qas (e : T.qb) : q29 ⟨false,[e]⟩ = some (.inr [e]) := by
 unfold q29 q9b
 rw [if_neg (by simp),if_pos (xc (by simp))]
 simp only [Option.bind_eq_bind,Option.bind_some]
 obtain ⟨d,h1,h2,_⟩ := qzp [e] (by simp)
 have : d = [e] := List.perm_singleton.1 h2
 subst this
 rw [h1]
 rfl
theorem q98 (e : T.qb) : q1l [e] = some [e] := by
 unfold q1l
 rw [q6k.eq_1,if_neg (by rw [l1,w0]; decide)]
 rfl
theorem qiv (p : Int) (r : Bool) (x y : Int) (t : Bytes) (h : p < x) : q00 p r [⟨⟨x,y⟩,t⟩] = some p := by
 unfold q00
 simp only [qas,q98,Option.bind_eq_bind,Option.bind_some]
 rw [uo.eq_1,l1,if_pos (by decide),g0]
 simp only [Option.bind_eq_bind,Option.bind_some]
 rw [if_pos (by simpa using h),w1,uo.eq_1,if_neg (by decide)]
 rfl
theorem qg6 (p : Int) (r : Bool) (x y : Int) (t : Bytes) (h : y < p) (hx : 0 ≤ x) (hxy : x ≤ y) (hp : p ≤ 2 ^ 30) (ht : t.length ≤ 2 ^ 30) : q00 p r [⟨⟨x,y⟩,t⟩] = some (p + t.length - (y - x)) := by
 unfold q00
 simp only [qas,q98,Option.bind_eq_bind,Option.bind_some]
 rw [uo.eq_1,l1,if_pos (by decide),g0]
 simp only [Option.bind_eq_bind,Option.bind_some]
 rw [if_neg (by simp; omega),if_pos (by simpa using h)]
 simp only [kv,Option.bind_some]
 rw [zi (n := y - x) (by omega) (by omega),zi (n := (t.length : Int) - (y - x)) (by omega) (by omega),zi (n := p + ((t.length : Int) - (y - x))) (by omega) (by omega)]
 rw [w1,uo.eq_1,if_neg (by decide)]
 simp only [Option.bind_some,Option.some.injEq]
 omega
theorem q8w (u v x y : Int) (t : Bytes) (i p : Int) (does : List Int) (hx : 0 ≤ x) (hxy : x ≤ y) (hv : y ≤ v) (hp : v ≤ 2 ^ 30) (ht : t.length ≤ 2 ^ 30) : uw ⟨u,v⟩ 1 x y t i p does = some ⟨u,v + t.length - (y - x)⟩ := by
 unfold uw
 rw [if_pos (by decide)]
 simp only [kv,Option.bind_eq_bind,Option.bind_some]
 rw [zi (n := y - x) (by omega) (by omega),zi (n := v + (t.length : Int)) (by omega) (by omega),zi (by omega) (by omega)]
theorem zri (u v x y : Int) (t : Bytes) (i p : Int) (does : List Int) (hx : 0 ≤ x) (hxy : x ≤ y) (hu : y < u) (hv : u ≤ v) (hp : v ≤ 2 ^ 30) (ht : t.length ≤ 2 ^ 30) : uw ⟨u,v⟩ 4 x y t i p does = some ⟨u + t.length - (y - x),v + t.length - (y - x)⟩ := by
 unfold uw
 rw [if_neg (by decide),qg6 u _ x y t hu hx hxy (by omega) ht,qg6 v _ x y t (by omega) hx hxy (by omega) ht]
 rfl
theorem zl7 (u v x y : Int) (t : Bytes) (i p : Int) (does : List Int) (hv : u ≤ v) (h : v < x) : uw ⟨u,v⟩ 3 x y t i p does = some ⟨u,v⟩ := by
 unfold uw
 rw [if_neg (by decide),qiv u _ x y t (by omega),qiv v _ x y t h]
 rfl
variable {q a b c d : Int}
abbrev mrk (f g : Bool) : Sl T.qd := ⟨false,[⟨0,f⟩,⟨1,g⟩]⟩
abbrev lv (q a b c d : Int) (f g : Bool) : T.qc := ⟨ses q a b c d,⟨false,[mrk f g]⟩⟩
theorem qlp (f g typed : Bool) (x y : Int) (t : Bytes) (p : Int) (h : 0 ≤ a ∧ a ≤ x ∧ x ≤ y ∧ y ≤ b ∧ b < c ∧ c ≤ d ∧ d ≤ q) (hq : q ≤ 2 ^ 30) (ht : t.length ≤ 2 ^ 30) :
  q2a (ins q a b c d) (mrk f g) typed x y t 0 p [1,1,4] = some (ins (q + t.length - (y - x)) a (b + t.length - (y - x)) (c + t.length - (y - x)) (d + t.length - (y - x)),mrk (f || (typed && true)) (g || (typed && false))) := by
 obtain ⟨h1,h2,h3,h4,h5,h6,h7⟩ := h
 unfold q2a
 rw [g0]
 simp only [Option.bind_eq_bind,Option.bind_some]
 rw [q8w 0 q x y t 0 p _ (by omega) h3 (by omega) hq ht]
 simp only [Option.bind_some]
 rw [show ((ins q a b c d).stops.l.length : Int) = 2 from rfl,if_pos (by decide),if_pos (by decide)]
 have ha := q8w a b x y t 0 p [1,1,4] (by omega) h3 (by omega) (by omega) ht
 have hc := zri c d x y t 0 p [1,1,4] (by omega) h3 (by omega) (by omega) (by omega) ht
 rw [jo.eq_1,if_pos (by decide),w1]
 rw [show q9 (ins q a b c d).stops.l 0 = some (stp a b true) from rfl,g1]
 simp only [Option.bind_eq_bind,Option.bind_some]
 rw [if_neg (by decide),show q9 (List.replicate (2 : Int).toNat (0 : Int)) 0 = some 0 from rfl,upk 0 (.inl rfl)]
 simp only [Option.bind_some]
 rw [if_neg (by decide),ha]
 simp only [Option.bind_some]
 rw [show q9 (mrk f g).l 0 = some ⟨0,f⟩ from rfl]
 simp only [Option.bind_some]
 have r0 : qj (([] : List T.Stop).length + 1) 200 = true := by decide
 have r1 : qj (([] : List T.qd).length + 1) 16 = true := by decide
 have r2 : ∀ z : T.Stop,qj (([] ++ [z]).length + 1) 200 = true := fun z => by simp [qj]
 have r3 : ∀ z : T.qd,qj (([] ++ [z]).length + 1) 16 = true := fun z => by simp [qj]
 have f0 : ¬ (false = true) := by simp
 have f4 : ¬ (((4 : Int) == 2) = true) := by decide
 have fm : ¬ (decide ((-1 : Int) ≥ 0) = true) := by decide
 have k2 : ¬ (decide ((2 : Int) < 2) = true) := by decide
 have k1 : decide ((1 : Int) < 2) = true := by decide
 cases f <;> cases g <;> cases typed
 all_goals
  simp only [if_true,if_neg f0,r0,r1,if_pos]
  rw [jo.eq_1,if_pos k1,w2]
  rw [show q9 (ins q a b c d).stops.l 1 = some (stp c d false) from rfl,g2]
  simp only [Option.bind_eq_bind,Option.bind_some]
  rw [if_neg f4,show q9 ((List.replicate (2 : Int).toNat (0 : Int)).set (0 : Int).toNat (([] : List T.Stop).length : Int)) 1 = some 0 from rfl,upk 1 (.inr rfl)]
  simp only [Option.bind_some]
  rw [if_neg fm,hc]
  simp only [Option.bind_some]
  rw [show ∀ f g,q9 (mrk f g).l 1 = some ⟨1,g⟩ from fun _ _ => rfl]
  simp only [Option.bind_some,if_true,if_neg f0,r2,r3]
  rw [jo.eq_1,if_neg k2]
  rfl
end Go.Proofs.YtkbgphcebakcnaaGreat
