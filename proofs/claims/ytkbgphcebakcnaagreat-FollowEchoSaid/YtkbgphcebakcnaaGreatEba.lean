/-
  The other of two stops is given the text of the one that was typed in.
-/
import Derived.Test.YtkbgphcebakcnaaGreatEaz
set_option linter.unusedSimpArgs false
set_option linter.unusedVariables false
namespace Go.Proofs.YtkbgphcebakcnaaGreat
open Go Go.Gm
variable {q a b c d : Int}
theorem qkh (w : Bytes) (x y : Int) (h : 0 ≤ x ∧ x ≤ y ∧ y ≤ w.length) : w.take x.toNat ++ (w.take y.toNat).drop x.toNat ++ w.drop y.toNat = w := by
 have e : w.take x.toNat = (w.take y.toNat).take x.toNat := by rw [List.take_take]; congr 1; omega
 rw [e,List.take_append_drop,List.take_append_drop]
theorem zn1 (text w : Bytes) (s : T.Sel) (i : T.qa) (f g : Bool) (h : 0 ≤ a ∧ a ≤ b ∧ b < c ∧ c ≤ d ∧ d ≤ q) (hq : q ≤ w.length) (hw : w.length ≤ 30000) (ht : text.length ≤ 30000) :
  ∃ s',jd (0,0,1,text,0,1,w,⟨false,[s]⟩,[lv q a b c d f g],i) = jd (0,0,1,text,0,2,w.take c.toNat ++ text ++ w.drop d.toNat,⟨false,[s']⟩,[lv (q + text.length - (d - c)) a b c (d + text.length - (d - c)) f g],i) := by
 obtain ⟨h1,h2,h3,h4,h5⟩ := h
 rw [jd.eq_1,g0]
 simp only [Option.bind_eq_bind,bnd]
 rw [show q9 (lv q a b c d f g).session.insts.l 0 = some (ins q a b c d) from rfl]
 simp only [bnd]
 rw [if_pos (by simp),show q9 (ins q a b c d).stops.l 1 = some (stp c d false) from rfl]
 simp only [bnd]
 rw [if_neg (by simp),show q9 (lv q a b c d f g).marks.l 0 = some (mrk f g) from rfl]
 simp only [bnd]
 rw [show q9 (mrk f g).l 1 = some ⟨1,g⟩ from rfl]
 simp only [bnd]
 rw [if_neg (by decide),if_neg (by simp)]
 obtain ⟨r,q1,q2,q3⟩ := Tot.zy (l := w) (lo := c) (hi := d) (by omega) h4 (by omega)
 rw [q1]
 simp only [bnd,w2]
 by_cases hr : text = r
 ·rw [if_pos (by simpa using hr)]
  refine ⟨s, ?_⟩
  have e1 : w.take c.toNat ++ text ++ w.drop d.toNat = w := by rw [hr,q2,qkh w c d (by omega)]
  have e2 : (text.length : Int) = d - c := by rw [hr]; exact q3
  rw [e1,e2,show q + (d - c) - (d - c) = q from by omega,show d + (d - c) - (d - c) = d from by omega]
 ·rw [if_neg (by simpa using hr)]
  simp only [kv,bnd]
  rw [zi (n := d - c) (by omega) (by omega),zi (n := (text.length : Int) - (d - c)) (by omega) (by omega),zi (n := (65536 : Int) - w.length) (by omega) (by omega)]
  rw [if_neg (by simp; omega)]
  obtain ⟨s',hs⟩ := qfa (q := q) (a := a) (b := b) (c := c) (d := d) f g false w s c d text (by omega) hq (by omega) (by omega)
  refine ⟨s', ?_⟩
  rw [hs]
  simp only [bnd,Bool.false_and,Bool.or_false]
theorem qld (text w : Bytes) (s : T.Sel) (i : T.qa) (f g : Bool) (h : 0 ≤ a ∧ a ≤ b ∧ b < c ∧ c ≤ d ∧ d ≤ q) (hq : q ≤ w.length) (hw : w.length ≤ 30000) (ht : text.length ≤ 30000) :
  ∃ s',jd (0,0,1,text,1,0,w,⟨false,[s]⟩,[lv q a b c d f g],i) = jd (0,0,1,text,1,1,w.take a.toNat ++ text ++ w.drop b.toNat,⟨false,[s']⟩,[lv (q + text.length - (b - a)) a (b + text.length - (b - a)) (c + text.length - (b - a)) (d + text.length - (b - a)) f g],i) := by
 obtain ⟨h1,h2,h3,h4,h5⟩ := h
 rw [jd.eq_1,g0]
 simp only [Option.bind_eq_bind,bnd]
 rw [show q9 (lv q a b c d f g).session.insts.l 0 = some (ins q a b c d) from rfl]
 simp only [bnd]
 rw [if_pos (by simp),show q9 (ins q a b c d).stops.l 0 = some (stp a b true) from rfl]
 simp only [bnd]
 rw [if_neg (by simp),show q9 (lv q a b c d f g).marks.l 0 = some (mrk f g) from rfl]
 simp only [bnd]
 rw [show q9 (mrk f g).l 0 = some ⟨0,f⟩ from rfl]
 simp only [bnd]
 rw [if_neg (by decide),if_neg (by simp)]
 obtain ⟨r,q1,q2,q3⟩ := Tot.zy (l := w) (lo := a) (hi := b) (by omega) h2 (by omega)
 rw [q1]
 simp only [bnd,w1]
 by_cases hr : text = r
 ·rw [if_pos (by simpa using hr)]
  refine ⟨s, ?_⟩
  have e1 : w.take a.toNat ++ text ++ w.drop b.toNat = w := by rw [hr,q2,qkh w a b (by omega)]
  have e2 : (text.length : Int) = b - a := by rw [hr]; exact q3
  rw [e1,e2,show q + (b - a) - (b - a) = q from by omega,show b + (b - a) - (b - a) = b from by omega,show c + (b - a) - (b - a) = c from by omega,show d + (b - a) - (b - a) = d from by omega]
 ·rw [if_neg (by simpa using hr)]
  simp only [kv,bnd]
  rw [zi (n := b - a) (by omega) (by omega),zi (n := (text.length : Int) - (b - a)) (by omega) (by omega),zi (n := (65536 : Int) - w.length) (by omega) (by omega)]
  rw [if_neg (by simp; omega)]
  obtain ⟨s',hs⟩ := qkc (q := q) (a := a) (b := b) (c := c) (d := d) f g false w s a b text (by omega) hq (by omega) (by omega)
  refine ⟨s', ?_⟩
  rw [hs]
  simp only [bnd,Bool.false_and,Bool.or_false]
theorem z7h (w : Bytes) (s : T.Sel) (h : 0 ≤ a ∧ a ≤ b ∧ b < c ∧ c ≤ d ∧ d ≤ q) (hq : q ≤ w.length) (hw : w.length ≤ 30000) :
  ∃ s',q2g 0 0 1 w ⟨false,[s]⟩ [lv q a b c d true false] = some (0,w.take c.toNat ++ (w.take b.toNat).drop a.toNat ++ w.drop d.toNat,⟨false,[s']⟩,[lv (q + (b - a) - (d - c)) a b c (c + (b - a)) true false]) := by
 obtain ⟨r,q1,q2,q3⟩ := Tot.zy (l := w) (lo := a) (hi := b) (by omega) h.2.1 (by omega)
 obtain ⟨s',hs⟩ := zn1 r w s (ins q a b c d) true false h hq hw (by omega)
 refine ⟨s', ?_⟩
 unfold q2g
 rw [g0]
 simp only [Option.bind_eq_bind,bnd]
 rw [show q9 (lv q a b c d true false).session.insts.l 0 = some (ins q a b c d) from rfl]
 simp only [bnd]
 rw [show q9 (lv q a b c d true false).marks.l 0 = some (mrk true false) from rfl]
 simp only [bnd]
 rw [show ((mrk true false).l.length : Int) = 2 from rfl,if_pos (by decide),if_pos (by decide),qfb]
 simp only [bnd]
 rw [source true false (by decide)]
 simp only [bnd,if_true]
 rw [if_neg (by decide),show q9 (ins q a b c d).stops.l 0 = some (stp a b true) from rfl]
 simp only [bnd]
 rw [q1]
 simp only [bnd]
 rw [show q9 (mrk true false).l 0 = some ⟨0,true⟩ from rfl]
 simp only [bnd]
 rw [qif r w _ _ true false 0 (.inl rfl),w1,hs,qgo]
 simp only [bnd]
 rw [q2] at q3 ⊢
 rw [q3,show d + (b - a) - (d - c) = c + (b - a) from by omega]
theorem z9k (w : Bytes) (s : T.Sel) (h : 0 ≤ a ∧ a ≤ b ∧ b < c ∧ c ≤ d ∧ d ≤ q) (hq : q ≤ w.length) (hw : w.length ≤ 30000) :
  ∃ s',q2g 0 0 1 w ⟨false,[s]⟩ [lv q a b c d false true] = some (0,w.take a.toNat ++ (w.take d.toNat).drop c.toNat ++ w.drop b.toNat,⟨false,[s']⟩,[lv (q + (d - c) - (b - a)) a (a + (d - c)) (c + (d - c) - (b - a)) (d + (d - c) - (b - a)) false true]) := by
 obtain ⟨r,q1,q2,q3⟩ := Tot.zy (l := w) (lo := c) (hi := d) (by omega) h.2.2.2.1 (by omega)
 obtain ⟨s',hs⟩ := qld r w s (ins q a b c d) false true h hq hw (by omega)
 refine ⟨s', ?_⟩
 unfold q2g
 rw [g0]
 simp only [Option.bind_eq_bind,bnd]
 rw [show q9 (lv q a b c d false true).session.insts.l 0 = some (ins q a b c d) from rfl]
 simp only [bnd]
 rw [show q9 (lv q a b c d false true).marks.l 0 = some (mrk false true) from rfl]
 simp only [bnd]
 rw [show ((mrk false true).l.length : Int) = 2 from rfl,if_pos (by decide),if_pos (by decide),qfb]
 simp only [bnd]
 rw [source false true (by decide)]
 simp only [bnd,if_neg (show ¬ (false = true) by decide)]
 rw [if_neg (by decide),show q9 (ins q a b c d).stops.l 1 = some (stp c d false) from rfl]
 simp only [bnd]
 rw [q1]
 simp only [bnd]
 rw [show q9 (mrk false true).l 1 = some ⟨1,true⟩ from rfl]
 simp only [bnd]
 rw [hs,qif r _ _ _ false true 1 (.inr rfl),w2,qgo]
 simp only [bnd]
 rw [q2] at q3 ⊢
 rw [q3,show b + (d - c) - (b - a) = a + (d - c) from by omega]
theorem qiz (w w' : Bytes) (s s' : Sl T.Sel) (f g : Bool) (q' a' b' c' d' : Int) (f' g' : Bool) (h : q2g 0 0 1 w s [lv q a b c d f g] = some (0,w',s',[lv q' a' b' c' d' f' g'])) :
  q68 w s [lv q a b c d f g] = some (0,w',s',[lv q' a' b' c' d' f' g']) := by
 unfold q68
 rw [l1,show IntKind.i64.wrap (1 - 1 : Int) = 0 from w0,q3x.eq_1,if_pos (by decide)]
 rw [q31.eq_1,g0]
 simp only [Option.bind_eq_bind,bnd]
 rw [show q9 (lv q a b c d f g).session.insts.l 0 = some (ins q a b c d) from rfl,if_pos (by simp)]
 simp only [bnd,qx1]
 rw [l1,q4d.eq_1,if_pos (by decide),g0]
 simp only [Option.bind_eq_bind,bnd,h]
 rw [if_neg (by decide),w1,q4d.eq_1,if_neg (by decide)]
 simp only [bnd]
 rw [q31.eq_1,g0]
 simp only [Option.bind_eq_bind,bnd]
 rw [if_neg (by simp)]
 simp only [bnd]
 rw [wm,q3x.eq_1,if_neg (by decide)]
 rfl
end Go.Proofs.YtkbgphcebakcnaaGreat
