/-
  The law FollowEcho, on plain data: what is typed in one of two stops is typed in both.
-/
import Derived.Test.YtkbgphcebakcnaaGreatEba
set_option linter.unusedSimpArgs false
set_option linter.unusedVariables false
namespace Go.Proofs.YtkbgphcebakcnaaGreat
open Go Go.Gm
theorem qhl (x n : Int) (hn : 0 < n) (hn2 : n ≤ 1000) : ∃ r : Int,q6d x n = some r ∧ 0 ≤ r ∧ r < n := by
 have hw : IntKind.u64.wrap n = n := by
  simp [IntKind.wrap,IntKind.signed,IntKind.bits]
  omega
 have h0 : 0 ≤ IntKind.u64.wrap x := by
  simp [IntKind.wrap,IntKind.signed,IntKind.bits]
  omega
 have h1 : (IntKind.u64.wrap x).tmod n = (IntKind.u64.wrap x) % n := Int.tmod_eq_emod_of_nonneg h0
 have h2 := Int.emod_nonneg (IntKind.u64.wrap x) (show n ≠ 0 by omega)
 have h3 := Int.emod_lt_of_pos (IntKind.u64.wrap x) hn
 refine ⟨(IntKind.u64.wrap x) % n, ?_,h2,h3⟩
 unfold q6d
 rw [hw,if_pos (by omega),h1,zi (by omega) (by omega)]
variable {q a b c d : Int}
theorem qoh (x y : Int) (h : x ≤ y) : q72 ⟨false,[⟨x,y⟩]⟩ = some true := by
 unfold q72 q94
 rw [if_neg (by simp),if_pos (xc (by simp))]
 simp only [Option.bind_eq_bind,bnd]
 obtain ⟨r,h1,h2,_⟩ := z7x [⟨x,y⟩] (by simp)
 have : r = [⟨x,y⟩] := List.perm_singleton.1 h2
 subst this
 rw [h1]
 simp only [bnd]
 rw [l1,q20.eq_1,if_pos (by decide),g0]
 simp only [Option.bind_eq_bind,bnd]
 rw [if_neg (by simp; omega),if_neg (by decide),w1,q20.eq_1,if_neg (by decide)]
 rfl
theorem qex (n x y : Int) (t : Bytes) (h : 0 ≤ x ∧ x ≤ y ∧ y ≤ n) (hn : n ≤ 30000) (ht : t.length ≤ 30000) : q7r n ⟨false,[⟨⟨x,y⟩,t⟩]⟩ = some 0 := by
 unfold q7r
 rw [show ((⟨false,[⟨⟨x,y⟩,t⟩]⟩ : Sl T.qb).l.length : Int) = 1 from rfl,q4b.eq_1,if_pos (by decide),g0]
 unfold q1d
 simp only [Option.bind_eq_bind,bnd]
 rw [if_pos (by simp; omega)]
 simp only [bnd]
 rw [if_neg (by simp; omega),w1,q4b.eq_1,if_neg (by decide)]
 simp only [bnd]
 have e : q6l ⟨false,[⟨⟨x,y⟩,t⟩]⟩ = some ⟨false,[⟨x,y⟩]⟩ := by
  unfold q6l
  rw [show ((⟨false,[⟨⟨x,y⟩,t⟩]⟩ : Sl T.qb).l.length : Int) = 1 from rfl,q2t.eq_1,if_pos (by decide),g0]
  simp only [Option.bind_eq_bind,bnd]
  rw [if_pos (xc (by simp)),w1,q2t.eq_1,if_neg (by decide)]
  rfl
 rw [e]
 simp only [bnd]
 rw [qoh x y h.2.1]
 simp only [bnd]
 rw [if_neg (by decide)]
 unfold q8y
 rw [show ((⟨false,[⟨⟨x,y⟩,t⟩]⟩ : Sl T.qb).l.length : Int) = 1 from rfl,q43.eq_1,if_pos (by decide),g0]
 simp only [kv,Option.bind_eq_bind,bnd]
 rw [zi (n := y - x) (by omega) (by omega),zi (n := (t.length : Int) - (y - x)) (by omega) (by omega),zi (n := n + ((t.length : Int) - (y - x))) (by omega) (by omega)]
 rw [w1,q43.eq_1,if_neg (by decide)]
 simp only [bnd]
 rw [if_neg (by simp; omega)]
theorem z05 : q45 (zRx,zRx) = some true := by
 rw [q45.eq_1,if_neg (by decide),q5l.eq_1,if_neg (by decide)]
 simp only [Option.bind_eq_bind,bnd]
 rw [q65.eq_1,if_neg (by decide)]
 rfl
theorem qio (x y : Int) (f : Bool) : q7y (stp x y f) (stp x y f) = some true := by
 unfold q7y
 rw [if_pos (by simp)]
 unfold q97
 rw [z05]
 simp only [Option.bind_eq_bind,bnd]
 rw [if_neg (by decide),q6h.eq_1,if_neg (by decide)]
 simp only [bnd]
 rw [if_pos trivial]
 unfold qa6
 rw [if_neg (by decide),q50.eq_1,if_neg (by decide)]
 rfl
theorem qk5 : q4p (ses q a b c d) (ses q a b c d) = some true := by
 unfold q4p
 rw [if_neg (by simp),q3q.eq_1,if_pos (by simp),show q9 (ses q a b c d).insts.l 0 = some (ins q a b c d) from rfl]
 have : q76 (ins q a b c d) (ins q a b c d) = some true := by
  unfold q76
  rw [if_neg (by simp),q2b.eq_1,if_pos (by simp),show q9 (ins q a b c d).stops.l 0 = some (stp a b true) from rfl]
  simp only [Option.bind_eq_bind,bnd,qio]
  rw [if_neg (by decide),w1,q2b.eq_1,if_pos (by simp),show q9 (ins q a b c d).stops.l 1 = some (stp c d false) from rfl]
  simp only [Option.bind_eq_bind,bnd,qio]
  rw [if_neg (by decide),w2,q2b.eq_1,if_neg (by simp)]
  rfl
 simp only [Option.bind_eq_bind,bnd,this]
 rw [if_neg (by decide),w1,q3q.eq_1,if_neg (by simp)]
 rfl
theorem do0 (s t : Bytes) (x y : Int) (h : 0 ≤ a ∧ a ≤ x ∧ x ≤ y ∧ y ≤ b ∧ b < c ∧ c ≤ d ∧ d ≤ q) (hq : q ≤ s.length) (hs : s.length ≤ 10000) (ht : t.length ≤ 10000) :
  ∃ s',q1x (sta s q a b c d) ⟨false,[⟨⟨x,y⟩,t⟩]⟩ = some (⟨(s.take x.toNat ++ t ++ s.drop y.toNat).take (c + t.length - (y - x)).toNat ++ ((s.take x.toNat ++ t ++ s.drop y.toNat).take (b + t.length - (y - x)).toNat).drop a.toNat ++ (s.take x.toNat ++ t ++ s.drop y.toNat).drop (d + t.length - (y - x)).toNat,⟨false,[s']⟩,
   ⟨false,[ses (q + t.length - (y - x) + (b + t.length - (y - x) - a) - (d - c)) a (b + t.length - (y - x)) (c + t.length - (y - x)) (c + t.length - (y - x) + (b + t.length - (y - x) - a))]⟩⟩,0) := by
 obtain ⟨h1,h2,h3,h4,h5,h6,h7⟩ := h
 obtain ⟨s1,hl⟩ := qkc (q := q) (a := a) (b := b) (c := c) (d := d) false false true s ⟨0,0⟩ x y t (by omega) hq (by omega) (by omega)
 have hlen : ((s.take x.toNat ++ t ++ s.drop y.toNat).length : Int) = s.length + t.length - (y - x) := by simp; omega
 obtain ⟨s2,hn⟩ := z7h (q := q + t.length - (y - x)) (a := a) (b := b + t.length - (y - x)) (c := c + t.length - (y - x)) (d := d + t.length - (y - x)) (s.take x.toNat ++ t ++ s.drop y.toNat) s1 (by omega) (by omega) (by omega)
 refine ⟨s2, ?_⟩
 unfold q1x
 rw [qf4 s (by omega) (by omega)]
 simp only [Option.bind_eq_bind,bnd]
 rw [if_neg (by decide),qex _ x y t (by omega) (by omega) (by omega)]
 simp only [bnd]
 rw [if_neg (by decide),begun]
 simp only [bnd]
 have ho : kg (ses q a b c d) (T.qb.mk ⟨x,y⟩ t).span = some (0,0) := zgj x y (by omega)
 rw [leaves _ _ _ _ _ 0 0 ho (by omega),qhy _ _ _ (lv q a b c d false false) 0 0 ho _ hl]
 simp only [bnd]
 rw [show (false || (true && true)) = true from rfl,show (false || (true && false)) = false from rfl,qiz _ _ _ _ _ _ _ _ _ _ _ _ _ hn]
 simp only [bnd]
 rw [if_neg (by decide),settled]
 simp only [bnd]
 rw [stated]
 simp only [bnd]
 rw [show (d + (t.length : Int) - (y - x)) - (c + t.length - (y - x)) = d - c from by omega]
theorem do1 (s t : Bytes) (x y : Int) (h : 0 ≤ a ∧ a ≤ b ∧ b < c ∧ c ≤ x ∧ x ≤ y ∧ y ≤ d ∧ d ≤ q) (hq : q ≤ s.length) (hs : s.length ≤ 10000) (ht : t.length ≤ 10000) :
  ∃ s',q1x (sta s q a b c d) ⟨false,[⟨⟨x,y⟩,t⟩]⟩ = some (⟨(s.take x.toNat ++ t ++ s.drop y.toNat).take a.toNat ++ ((s.take x.toNat ++ t ++ s.drop y.toNat).take (d + t.length - (y - x)).toNat).drop c.toNat ++ (s.take x.toNat ++ t ++ s.drop y.toNat).drop b.toNat,⟨false,[s']⟩,
   ⟨false,[ses (q + t.length - (y - x) + (d + t.length - (y - x) - c) - (b - a)) a (a + (d + t.length - (y - x) - c)) (c + (d + t.length - (y - x) - c) - (b - a)) (d + t.length - (y - x) + (d + t.length - (y - x) - c) - (b - a))]⟩⟩,0) := by
 obtain ⟨h1,h2,h3,h4,h5,h6,h7⟩ := h
 obtain ⟨s1,hl⟩ := qfa (q := q) (a := a) (b := b) (c := c) (d := d) false false true s ⟨0,0⟩ x y t (by omega) hq (by omega) (by omega)
 have hlen : ((s.take x.toNat ++ t ++ s.drop y.toNat).length : Int) = s.length + t.length - (y - x) := by simp; omega
 obtain ⟨s2,hn⟩ := z9k (q := q + t.length - (y - x)) (a := a) (b := b) (c := c) (d := d + t.length - (y - x)) (s.take x.toNat ++ t ++ s.drop y.toNat) s1 (by omega) (by omega) (by omega)
 refine ⟨s2, ?_⟩
 unfold q1x
 rw [qf4 s (by omega) (by omega)]
 simp only [Option.bind_eq_bind,bnd]
 rw [if_neg (by decide),qex _ x y t (by omega) (by omega) (by omega)]
 simp only [bnd]
 rw [if_neg (by decide),begun]
 simp only [bnd]
 have ho : kg (ses q a b c d) (T.qb.mk ⟨x,y⟩ t).span = some (0,1) := qsl x y (by omega) (by omega)
 rw [leaves _ _ _ _ _ 0 1 ho (by omega),qhy _ _ _ (lv q a b c d false false) 0 1 ho _ hl]
 simp only [bnd]
 rw [show (false || (true && true)) = true from rfl,show (false || (true && false)) = false from rfl,qiz _ _ _ _ _ _ _ _ _ _ _ _ _ hn]
 simp only [bnd]
 rw [if_neg (by decide),settled]
 simp only [bnd]
 rw [stated]
 simp only [bnd]
theorem zk7 (p r : Bytes) (i : Nat) : (p ++ r).take (p.length + i) = p ++ r.take i := by rw [List.take_append,List.take_of_length_le (by omega),show p.length + i - p.length = i from by omega]
theorem qob (p r : Bytes) (i : Nat) : (p ++ r).drop (p.length + i) = r.drop i := by rw [List.drop_append,List.drop_of_length_le (by omega),show p.length + i - p.length = i from by omega]; rfl
theorem qej (s t : Bytes) (hs : s.length ≤ 2000) (ht : t.length ≤ 2000) : q2n s t = some (sta (s ++ t ++ s) (s.length + (s.length + t.length)) 0 s.length (s.length + t.length) (s.length + t.length + s.length)) := by
 unfold q2n
 rw [if_pos (by omega),if_pos (by simp only [List.length_append]; omega)]
 rw [zi (n := (s.length : Int) + t.length) (by omega) (by omega),zi (n := (s.length : Int) + (s.length + t.length)) (by omega) (by omega),zi (n := (s.length : Int) + t.length + s.length) (by omega) (by omega)]
end Go.Proofs.YtkbgphcebakcnaaGreat
