/-
  One edit laid in one of two stops.
-/
import Derived.Test.YtkbgphcebakcnaaGreatEaw
set_option linter.unusedSimpArgs false
set_option linter.unusedVariables false
namespace Go.Proofs.YtkbgphcebakcnaaGreat
open Go Go.Gm
variable {q a b c d : Int}
theorem bnd {α β : Type} (a : α) (f : α → Option β) : (some a).bind f = f a := by simp
theorem zi2 (f g typed : Bool) (x y : Int) (t : Bytes) (p : Int) (h : 0 ≤ a ∧ a ≤ b ∧ b < c ∧ c ≤ x ∧ x ≤ y ∧ y ≤ d ∧ d ≤ q) (hq : q ≤ 2 ^ 30) (ht : t.length ≤ 2 ^ 30) :
  q2a (ins q a b c d) (mrk f g) typed x y t 0 p [1,3,1] = some (ins (q + t.length - (y - x)) a b c (d + t.length - (y - x)),mrk (f || (typed && false)) (g || (typed && true))) := by
 obtain ⟨h1,h2,h3,h4,h5,h6,h7⟩ := h
 unfold q2a
 rw [g0]
 simp only [Option.bind_eq_bind,Option.bind_some]
 rw [q8w 0 q x y t 0 p _ (by omega) h5 (by omega) hq ht]
 simp only [Option.bind_some]
 rw [show ((ins q a b c d).stops.l.length : Int) = 2 from rfl,if_pos (by decide),if_pos (by decide)]
 have ha := zl7 a b x y t 0 p [1,3,1] (by omega) (by omega)
 have hc := q8w c d x y t 0 p [1,3,1] (by omega) h5 (by omega) (by omega) ht
 rw [jo.eq_1,if_pos (by decide),w1]
 rw [show q9 (ins q a b c d).stops.l 0 = some (stp a b true) from rfl,g1]
 simp only [Option.bind_eq_bind,Option.bind_some]
 rw [if_neg (by decide),show q9 (List.replicate (2 : Int).toNat (0 : Int)) 0 = some 0 from rfl,upk 0 (.inl rfl)]
 simp only [Option.bind_some]
 rw [if_neg (by decide),ha]
 simp only [Option.bind_some]
 rw [show q9 (mrk f g).l 0 = some ⟨0,f⟩ from rfl]
 simp only [Option.bind_some]
 have r0 : qj (([] : List T.Stop).length + 1) 200 = true := by decide
 have r1 : qj (([] : List T.qd).length + 1) 16 = true := by decide
 have r2 : ∀ z : T.Stop,qj (([] ++ [z]).length + 1) 200 = true := fun z => by simp [qj]
 have r3 : ∀ z : T.qd,qj (([] ++ [z]).length + 1) 16 = true := fun z => by simp [qj]
 have f0 : ¬ (false = true) := by simp
 have f4 : ¬ (((1 : Int) == 2) = true) := by decide
 have fm : ¬ (decide ((-1 : Int) ≥ 0) = true) := by decide
 have k2 : ¬ (decide ((2 : Int) < 2) = true) := by decide
 have k1 : decide ((1 : Int) < 2) = true := by decide
 cases f <;> cases g <;> cases typed
 all_goals
  simp only [if_true,if_neg f0,r0,r1,if_pos]
  rw [jo.eq_1,if_pos k1,w2]
  rw [show q9 (ins q a b c d).stops.l 1 = some (stp c d false) from rfl,g2]
  simp only [Option.bind_eq_bind,Option.bind_some]
  rw [if_neg f4,show q9 ((List.replicate (2 : Int).toNat (0 : Int)).set (0 : Int).toNat (([] : List T.Stop).length : Int)) 1 = some 0 from rfl,upk 1 (.inr rfl)]
  simp only [bnd]
  rw [if_neg fm,hc]
  simp only [Option.bind_some]
  rw [show ∀ f g,q9 (mrk f g).l 1 = some ⟨1,g⟩ from fun _ _ => rfl]
  simp only [Option.bind_some,if_true,if_neg f0,r2,r3]
  rw [jo.eq_1,if_neg k2]
  simp [ins,sps,stp,mrk]
theorem qhz (typed : Bool) (f g : Bool) (e : T.qb) (z : T.qc) (x y : Int) (t : Bytes) (p : Int) (w2' w3 : Int) (i' : T.qa) (m' : Sl T.qd)
  (h : q2a (ins q a b c d) (mrk f g) typed x y t 0 p [1,w2',w3] = some (i',m')) :
  q14 (typed,(ses q a b c d).insts,1,0,lv q a b c d f g,e,z,[1,w2',w3],x,y,t,0,p,1,[],[]) = some ([i'],[m']) := by
 rw [q14.eq_1,if_pos (by decide),show q9 (ses q a b c d).insts.l 0 = some (ins q a b c d) from rfl,w1]
 simp only [Option.bind_eq_bind,Option.bind_some]
 rw [if_pos (by decide),g0]
 simp only [Option.bind_some]
 rw [if_pos (by decide),show q9 (lv q a b c d f g).marks.l 0 = some (mrk f g) from rfl]
 simp only [Option.bind_some,h]
 rw [if_pos (xc (by simp)),if_pos (xc (by simp)),q14.eq_1,if_neg (by decide)]
 rfl
theorem qlb (f g typed deep : Bool) (x y : Int) (t : Bytes) (h : 0 ≤ a ∧ a ≤ x ∧ x ≤ y ∧ y ≤ b ∧ b < c ∧ c ≤ d ∧ d ≤ q) (hq : q ≤ 2 ^ 30) (ht : t.length ≤ 2 ^ 30) :
  ni (lv q a b c d f g) 0 0 ⟨⟨x,y⟩,t⟩ deep typed = some (lv (q + t.length - (y - x)) a (b + t.length - (y - x)) (c + t.length - (y - x)) (d + t.length - (y - x)) (f || (typed && true)) (g || (typed && false))) := by
 unfold ni
 rw [qne deep x y t (by omega)]
 simp only [Option.bind_eq_bind,Option.bind_some]
 rw [show ((lv q a b c d f g).session.insts.l.length : Int) = 1 from rfl,qhz typed f g _ _ x y t 1 _ _ _ _ (qlp f g typed x y t 1 h hq ht)]
 rfl
theorem zer (f g typed deep : Bool) (x y : Int) (t : Bytes) (h : 0 ≤ a ∧ a ≤ b ∧ b < c ∧ c ≤ x ∧ x ≤ y ∧ y ≤ d ∧ d ≤ q) (hq : q ≤ 2 ^ 30) (ht : t.length ≤ 2 ^ 30) :
  ni (lv q a b c d f g) 0 1 ⟨⟨x,y⟩,t⟩ deep typed = some (lv (q + t.length - (y - x)) a b c (d + t.length - (y - x)) (f || (typed && false)) (g || (typed && true))) := by
 unfold ni
 rw [qyw deep x y t (by omega)]
 simp only [Option.bind_eq_bind,Option.bind_some]
 rw [show ((lv q a b c d f g).session.insts.l.length : Int) = 1 from rfl,qhz typed f g _ _ x y t 2 _ _ _ _ (zi2 f g typed x y t 2 h hq ht)]
 rfl
theorem qkv : q6q ⟨false,[((-1 : Int),(-1 : Int))]⟩ 1 = some [(-1,-1)] := by
 unfold q6q q93 q9g qav
 decide +kernel
theorem cmv (p : Int) (r : Bool) (e : T.qb) : ∃ p',q67 p r ⟨false,[e]⟩ = some p' := by
 unfold q67
 simp only [qas,q98,Option.bind_eq_bind,Option.bind_some]
 have e1 : ∀ z,uz (z,r,(([e] : List T.qb).length : Int),1,[e]) = some z := fun z => by
  rw [uz.eq_1,l1,if_neg (by decide)]
 rw [uz.eq_1,l1,if_pos (by decide),g0,w1]
 rw [l1] at e1
 simp only [Option.bind_eq_bind,Option.bind_some,e1,kv]
 by_cases h1 : p < e.span.frm
 ·rw [if_pos (by simpa using h1)]
  exact ⟨_,rfl⟩
 rw [if_neg (by simpa using h1)]
 by_cases h2 : p > e.span.to
 ·rw [if_pos (by simpa using h2)]
  exact ⟨_,rfl⟩
 rw [if_neg (by simpa using h2)]
 cases r
 ·exact ⟨_,rfl⟩
 ·exact ⟨_,rfl⟩
theorem zgy (s : T.Sel) : q25 ⟨false,[s]⟩ = some ⟨false,[s]⟩ := by
 unfold q25 q0m
 rw [if_neg (by simp),if_pos (xc (by simp))]
 simp only [Option.bind_eq_bind,Option.bind_some]
 obtain ⟨r,h1,h2,_⟩ := qg0 [s] (by simp)
 have : r = [s] := List.perm_singleton.1 h2
 subst this
 rw [h1]
 simp only [Option.bind_some,l1]
 rw [yu.eq_1,if_pos (by simp),g0]
 simp only [Option.bind_eq_bind,Option.bind_some]
 rw [if_pos (by decide),if_pos (xc (by simp)),w1,yu.eq_1,if_neg (by simp)]
 rfl
theorem z7g (s : T.Sel) (e : T.qb) : ∃ s',q5k ⟨false,[s]⟩ [e] = some ⟨false,[s']⟩ := by
 obtain ⟨p,hp⟩ := cmv s.anchor true e
 obtain ⟨p',hp'⟩ := cmv s.head true e
 refine ⟨⟨p,p'⟩, ?_⟩
 unfold q5k
 rw [show ((⟨false,[s]⟩ : Sl T.Sel).l.length : Int) = 1 from rfl]
 rw [q4e.eq_1,if_pos (by decide),g0]
 simp only [Option.bind_eq_bind,Option.bind_some,hp,hp']
 rw [if_pos (xc (by simp)),w1,q4e.eq_1,if_neg (by decide)]
 simp only [Option.bind_some,List.nil_append,List.isEmpty_cons,zgy]
theorem qec (k : Int) (hk : 0 ≤ k) (l l' : T.qc) (i : T.qa) (hi : q9 l.session.insts.l 0 = some i) (typed : Bool) (w : Bytes) (s : T.Sel) (x y : Int) (t : Bytes)
  (hsh : ∀ deep,ni l 0 k ⟨⟨x,y⟩,t⟩ deep typed = some l') (hx : 0 ≤ x ∧ x ≤ y ∧ y ≤ w.length) (ht : t.length ≤ 2 ^ 30) (hw : w.length ≤ 2 ^ 30) :
  ∃ s',ky 0 0 k ⟨⟨x,y⟩,t⟩ typed w ⟨false,[s]⟩ [l] = some (w.take x.toNat ++ t ++ w.drop y.toNat,⟨false,[s']⟩,[l']) := by
 obtain ⟨s',hs⟩ := z7g s ⟨⟨x,y⟩,t⟩
 refine ⟨s', ?_⟩
 unfold ky
 rw [l1,qkv]
 simp only [Option.bind_eq_bind,bnd]
 rw [if_pos (by simpa using hk),g0,g0]
 simp only [bnd,hi]
 rw [wm,q3s.eq_1,if_neg (by decide)]
 simp only [bnd]
 have hl2 : ∀ at_,q02 (0,typed,1,0,w,⟨false,[s]⟩,[l],⟨⟨x,y⟩,t⟩,[((-1 : Int),(-1 : Int))].set (0 : Int).toNat (0,k),at_) = some [l'] := by
  intro at_
  have hend : ∀ o,q02 (0,typed,1,1,w,⟨false,[s]⟩,[l'],⟨⟨x,y⟩,t⟩,o,at_) = some [l'] := fun o => by
   rw [q02.eq_1,if_neg (by decide)]
  rw [q02.eq_1,if_pos (by decide),g0,w1]
  rw [show q9 ([((-1 : Int),(-1 : Int))].set (0 : Int).toNat (0,k)) 0 = some (0,k) from rfl]
  simp only [Option.bind_eq_bind,bnd]
  rw [show [l].set (0 : Int).toNat = fun z => [z] from rfl]
  cases typed
  ·rw [if_neg (by simp),hsh]
   simp only [bnd,hend]
  ·rw [if_pos rfl,hsh]
   simp only [bnd,hend]
 rw [hl2]
 simp only [bnd]
 obtain ⟨r,h1,h2,h3⟩ := Tot.ku (l := w) hx.1 (by omega)
 obtain ⟨r',q1,q2,q3⟩ := Tot.jv (l := w) (lo := y) (by omega) hx.2.2
 rw [h1]
 simp only [bnd]
 rw [if_pos (by omega),q1]
 simp only [bnd]
 rw [if_pos (by simp only [List.length_append]; omega),hs]
 subst h2 q2
 rfl
theorem qkc (f g typed : Bool) (w : Bytes) (s : T.Sel) (x y : Int) (t : Bytes) (h : 0 ≤ a ∧ a ≤ x ∧ x ≤ y ∧ y ≤ b ∧ b < c ∧ c ≤ d ∧ d ≤ q) (hq : q ≤ w.length) (ht : t.length ≤ 2 ^ 30) (hw : w.length ≤ 2 ^ 30) :
  ∃ s',ky 0 0 0 ⟨⟨x,y⟩,t⟩ typed w ⟨false,[s]⟩ [lv q a b c d f g] = some (w.take x.toNat ++ t ++ w.drop y.toNat,⟨false,[s']⟩,[lv (q + t.length - (y - x)) a (b + t.length - (y - x)) (c + t.length - (y - x)) (d + t.length - (y - x)) (f || (typed && true)) (g || (typed && false))]) :=
 qec 0 (by omega) _ _ (ins q a b c d) rfl typed w s x y t (fun deep => qlb f g typed deep x y t h (by omega) ht) (by omega) ht hw
theorem qfa (f g typed : Bool) (w : Bytes) (s : T.Sel) (x y : Int) (t : Bytes) (h : 0 ≤ a ∧ a ≤ b ∧ b < c ∧ c ≤ x ∧ x ≤ y ∧ y ≤ d ∧ d ≤ q) (hq : q ≤ w.length) (ht : t.length ≤ 2 ^ 30) (hw : w.length ≤ 2 ^ 30) :
  ∃ s',ky 0 0 1 ⟨⟨x,y⟩,t⟩ typed w ⟨false,[s]⟩ [lv q a b c d f g] = some (w.take x.toNat ++ t ++ w.drop y.toNat,⟨false,[s']⟩,[lv (q + t.length - (y - x)) a b c (d + t.length - (y - x)) (f || (typed && false)) (g || (typed && true))]) :=
 qec 1 (by omega) _ _ (ins q a b c d) rfl typed w s x y t (fun deep => zer f g typed deep x y t h (by omega) ht) (by omega) ht hw
end Go.Proofs.YtkbgphcebakcnaaGreat
