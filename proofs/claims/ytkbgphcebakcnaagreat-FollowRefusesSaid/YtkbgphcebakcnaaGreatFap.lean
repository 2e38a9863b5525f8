/-
  Selections in order, edits that may be: what ends, and with what.
-/
import Derived.Test.YtkbgphcebakcnaaGreatFao
set_option linter.unusedSimpArgs false
set_option linter.unusedVariables false
namespace Go.Proofs.YtkbgphcebakcnaaGreat
open Go Go.Gm
theorem q0k {n k : Nat} (h : n ≤ 2 ^ 30) (hk : k ≤ 2 ^ 16 := by omega) : qx n k = true := qt9 h hk
theorem qud (d : List T.Sel) (hd : d.length ≤ 2 ^ 20) : ∀ (n : Nat) (i : Int) (out : List T.Sel),n = (d.length - i).toNat → 0 ≤ i → i ≤ d.length → (out.length : Int) ≤ i →
  Tot (gy ((d.length : Int),i,d,out)) (fun r => r.length ≤ d.length) := by
 intro n
 induction n using Nat.strongRecOn with
 | _ n ih =>
 intro i out hn h0 h1 h2
 rw [gy.eq_1]
 refine Tot.ite (fun hT => ?_) (fun hT => ?_)
 rotate_left
 ·exact .ret (by omega)
 have hT : i < d.length := by simpa using hT
 have hw : IntKind.i64.wrap (i + 1) = i + 1 := zk (by omega) (by omega)
 have hw2 : IntKind.i64.wrap ((out.length : Int) - 1) = (out.length : Int) - 1 := zk (by omega) (by omega)
 simp only [hw,hw2]
 refine Tot.bind (Tot.get h0 hT) fun x hx => ?_
 refine Tot.ite (fun hT2 => ?_) (fun hT2 => ?_)
 ·exact Tot.need (q0k (by omega)) (ih _ (by omega) _ _ rfl (by omega) (by omega) (by simp; omega))
 ·have hT2 : ¬ ((out.length : Int) - 1 < 0) := by simpa using hT2
  refine Tot.bind (Tot.get (by omega) (by omega)) fun y hy => ?_
  refine Tot.go (q65 y) (Tot.go (q65 x) ?_)
  refine Tot.bind (P := fun _ => True) ⟨_,rfl,trivial⟩ fun v _ => ?_
  refine Tot.ite (fun _ => ?_) (fun _ => ?_)
  ·exact Tot.need (q0k (by omega)) (ih _ (by omega) _ _ rfl (by omega) (by omega) (by simp; omega))
  ·refine Tot.ite (fun _ => ?_) (fun _ => ?_)
   ·exact ih _ (by omega) _ _ rfl (by omega) (by omega) (by simp; omega)
   ·exact ih _ (by omega) _ _ rfl (by omega) (by omega) (by simp; omega)
theorem qda (l : Sl T.Sel) (hl : l.l.length < 20) : Tot (q3j l) (fun r => r.l.length ≤ l.l.length) := by
 unfold q3j ni
 by_cases h : l.nil = true
 ·rw [if_pos h]
  simp only [Option.bind_eq_bind,Option.bind_some,qjv]
  rw [mr.eq_1,if_neg (by simp)]
  exact ⟨_,rfl,by simp⟩
 ·rw [if_neg h,if_pos (q0k (by omega))]
  simp only [Option.bind_eq_bind,Option.bind_some]
  obtain ⟨d,h1,h2,_⟩ := qxa l.l hl
  have h3 := h2.length_eq
  simp only [h1,Option.bind_some]
  obtain ⟨r,q1,q2⟩ := qud d (by omega) _ 0 [] rfl (by omega) (by omega) (by simp)
  simp only [q1,Option.bind_some]
  exact ⟨_,rfl,by simp only; omega⟩
theorem qls (n : Int) (l : Sl T.Sel) (hl : l.l.length < 20) : ∀ (m : Nat) (i : Int),m = (l.l.length - i).toNat → 0 ≤ i →
  Tot (q27 (n,l,l,(l.l.length : Int),i)) (fun r => ∀ y,r = .inl y → y.2 ≠ 0) := by
 intro m
 induction m using Nat.strongRecOn with
 | _ m ih =>
 intro i hm h0
 rw [q27.eq_1]
 refine Tot.ite (fun hT => ?_) (fun hT => ?_)
 rotate_left
 ·exact .ret (by simp)
 have hT : i < l.l.length := by simpa using hT
 rw [zk (by omega) (by omega)]
 refine Tot.bind (Tot.get h0 hT) fun x hx => ?_
 refine Tot.go (q65 x) ?_
 refine Tot.bind (P := fun _ => True) (by unfold q1b; exact Tot.ite (fun _ => .ret trivial) (fun _ => .ret trivial)) fun v _ => ?_
 refine Tot.ite (fun _ => ?_) (fun _ => ?_)
 ·exact .ret (by rintro y h; cases h; simp)
 ·exact ih _ (by omega) _ rfl (by omega)
theorem qz1 (n : Int) (l : Sl T.Sel) (hl : l.l.length < 20) : Tot (q1h n l) (fun _ => True) := by
 unfold q1h
 refine Tot.ite (fun _ => .ret trivial) (fun _ => ?_)
 refine Tot.ite (fun _ => .ret trivial) (fun _ => ?_)
 refine Tot.bind (qls n l hl _ 0 rfl (by omega)) fun v _ => ?_
 rcases v with v | v
 ·exact .ret trivial
 ·exact Tot.bind (qda l hl) fun w _ => .ret trivial
theorem zdf (a b : Sl T.Sel) (h : a.l.length = b.l.length) (ha : a.l.length < 2 ^ 30) : ∀ (m : Nat) (i : Int),m = (a.l.length - i).toNat → 0 ≤ i →
  ∃ r : Bool ⊕ Unit,(r = .inl false ∨ r = .inr ()) ∧ q1l (a,b,i) = some r ∧ q15 (a,b,(a.l.length : Int),i) = some r := by
 intro m
 induction m using Nat.strongRecOn with
 | _ m ih =>
 intro i hm h0
 rw [q1l.eq_1,q15.eq_1]
 by_cases hT : i < a.l.length
 rotate_left
 ·rw [if_neg (by simpa using hT),if_neg (by simpa using hT)]
  exact ⟨_,.inr rfl,rfl,rfl⟩
 rw [if_pos (by simpa using hT),if_pos (by simpa using hT),zk (by omega) (by omega)]
 obtain ⟨x,hx,_⟩ := Tot.get (l := a.l) h0 hT
 obtain ⟨y,hy,_⟩ := Tot.get (l := b.l) h0 (by omega)
 simp only [hx,hy,Option.bind_eq_bind,Option.bind_some]
 by_cases hc : (!(x.anchor == y.anchor && (x.head == y.head))) = true
 ·rw [if_pos hc,if_pos hc]
  exact ⟨_,.inl rfl,rfl,rfl⟩
 ·rw [if_neg hc,if_neg hc]
  exact ih _ (by omega) _ rfl (by omega)
theorem same_eq (a b : Sl T.Sel) (ha : a.l.length < 2 ^ 30) : ∃ r,bz a b = some r ∧ q13 a b = some r := by
 unfold bz q13
 by_cases h : (a.l.length : Int) = (b.l.length : Int)
 ·rw [if_neg (by simpa using h),if_neg (by simpa using h)]
  obtain ⟨r,_,h1,h2⟩ := zdf a b (by omega) ha _ 0 rfl (by omega)
  rw [h1,h2]
  rcases r with r | r <;> exact ⟨_,rfl,rfl⟩
 ·rw [if_pos (by simpa using h),if_pos (by simpa using h)]
  exact ⟨_,rfl,rfl⟩
def okS (n : Int) (s : T.Span) : Prop := 0 ≤ s.frm ∧ s.frm ≤ s.to ∧ s.to ≤ n
theorem qsl (s : T.Span) (n : Int) : Tot (q1b s n) (fun v => v = true → okS n s) := by
 unfold q1b okS
 refine Tot.ite (fun hT => ?_) (fun hT => ?_)
 ·simp only [Bool.and_eq_true,decide_eq_true_eq] at hT
  exact .ret (by simp; omega)
 ·exact .ret (by simp)
theorem qp3 (n : Int) (es : Sl T.q9) (hl : es.l.length < 20) : ∀ (m : Nat) (i : Int),m = (es.l.length - i).toNat → 0 ≤ i →
  Tot (q18 (n,es,es,(es.l.length : Int),i)) (fun r => (∀ y,r = .inl y → y ≠ 0) ∧ (∀ y,r = .inr y → ∀ k e,i.toNat ≤ k → es.l[k]? = some e → okS n e.span)) := by
 intro m
 induction m using Nat.strongRecOn with
 | _ m ih =>
 intro i hm h0
 rw [q18.eq_1]
 refine Tot.ite (fun hT => ?_) (fun hT => ?_)
 rotate_left
 ·have hT : ¬ (i < es.l.length) := by simpa using hT
  refine .ret ⟨by simp,fun _ _ k e h1 h2 => ?_⟩
  have := (List.getElem?_eq_some_iff.1 h2).1
  omega
 have hT : i < es.l.length := by simpa using hT
 rw [zk (by omega) (by omega)]
 refine Tot.bind (Tot.get h0 hT) fun x hx => ?_
 refine Tot.bind (qsl x.span n) fun v hv => ?_
 refine Tot.ite (fun _ => ?_) (fun hv2 => ?_)
 ·exact .ret ⟨by rintro y h; cases h; simp,by rintro y h; cases h⟩
 ·refine (ih _ (by omega) _ rfl (by omega)).mono fun r hr => ⟨hr.1,fun y hy k e h1 h2 => ?_⟩
  by_cases hk : k = i.toNat
  ·subst hk
   rw [hx.1] at h2
   cases h2
   exact hv (by simpa using hv2)
  ·exact hr.2 y hy k e (by omega) h2
theorem z96 (es : Sl T.q9) (hl : es.l.length < 20) : ∀ (m : Nat) (i : Nat),m = es.l.length - i → i ≤ es.l.length →
  Tot (q0o (es,(es.l.length : Int),(i : Int),(es.l.take i).map (·.span))) (fun r => r = es.l.map (·.span)) := by
 intro m
 induction m using Nat.strongRecOn with
 | _ m ih =>
 intro i hm h0
 rw [q0o.eq_1]
 refine Tot.ite (fun hT => ?_) (fun hT => ?_)
 rotate_left
 ·have hT : ¬ ((i : Int) < es.l.length) := by simpa using hT
  refine .ret ?_
  rw [List.take_of_length_le (by omega)]
 have hT : (i : Int) < es.l.length := by simpa using hT
 rw [zk (by omega) (by omega)]
 refine Tot.bind (Tot.get (by omega) hT) fun x hx => ?_
 refine Tot.need (q0k (by simp; omega)) ?_
 have e : (es.l.take i).map (·.span) ++ [x.span] = (es.l.take (i + 1)).map (·.span) := by
  rw [List.take_add_one]
  have h2 := hx.1
  simp only [Int.toNat_natCast] at h2
  simp [h2]
 rw [e]
 exact ih _ (by omega) (i + 1) rfl (by omega)
def bef (a b : T.Span) : Prop := a.frm ≤ a.to ∧ b.frm ≤ b.to ∧ a.to ≤ b.frm ∧ a.frm < b.frm
theorem qm6 (d : List T.Span) (hd : d.length < 20) : ∀ (m : Nat) (i : Int),m = (d.length - i).toNat → 0 ≤ i →
  Tot (q07 ((d.length : Int),i,d)) (fun r => (∀ y,r = .inl y → y = false) ∧ (∀ y,r = .inr y → ∀ k e,i.toNat ≤ k → d[k]? = some e → e.frm ≤ e.to ∧ (0 < k → ∃ f,d[k - 1]? = some f ∧ e.frm ≠ f.frm ∧ f.to ≤ e.frm))) := by
 intro m
 induction m using Nat.strongRecOn with
 | _ m ih =>
 intro i hm h0
 rw [q07.eq_1]
 refine Tot.ite (fun hT => ?_) (fun hT => ?_)
 rotate_left
 ·have hT : ¬ (i < d.length) := by simpa using hT
  refine .ret ⟨by simp,fun _ _ k e h1 h2 => ?_⟩
  have := (List.getElem?_eq_some_iff.1 h2).1
  omega
 have hT : i < d.length := by simpa using hT
 have hw : IntKind.i64.wrap (i + 1) = i + 1 := zk (by omega) (by omega)
 have hw2 : IntKind.i64.wrap (i - 1) = i - 1 := zk (by omega) (by omega)
 simp only [hw,hw2]
 refine Tot.bind (Tot.get h0 hT) fun x hx => ?_
 refine Tot.ite (fun _ => .ret ⟨by rintro y h; cases h; rfl,by rintro y h; cases h⟩) (fun h3 => ?_)
 have h3 : ¬ (x.frm > x.to) := by simpa using h3
 refine Tot.ite (fun h4 => ?_) (fun h4 => ?_)
 ·have h4 : i > 0 := by simpa using h4
  refine Tot.bind (Tot.get (by omega) (by omega)) fun f hf => ?_
  refine Tot.ite (fun _ => .ret ⟨by rintro y h; cases h; rfl,by rintro y h; cases h⟩) (fun h5 => ?_)
  refine Tot.ite (fun _ => .ret ⟨by rintro y h; cases h; rfl,by rintro y h; cases h⟩) (fun h6 => ?_)
  have h5 : ¬ (x.frm = f.frm) := by simpa using h5
  have h6 : ¬ (x.frm < f.to) := by simpa using h6
  refine (ih _ (by omega) _ rfl (by omega)).mono fun r hr => ⟨hr.1,fun y hy k e h1 h2 => ?_⟩
  by_cases hk : k = i.toNat
  ·subst hk
   rw [hx.1] at h2
   cases h2
   exact ⟨by omega,fun _ => ⟨f,by rw [show i.toNat - 1 = (i - 1).toNat from by omega]; exact hf.1,h5,by omega⟩⟩
  ·exact hr.2 y hy k e (by omega) h2
 ·have h4 : ¬ (i > 0) := by simpa using h4
  refine (ih _ (by omega) _ rfl (by omega)).mono fun r hr => ⟨hr.1,fun y hy k e h1 h2 => ?_⟩
  by_cases hk : k = i.toNat
  ·subst hk
   rw [hx.1] at h2
   cases h2
   exact ⟨by omega,fun h => by omega⟩
  ·exact hr.2 y hy k e (by omega) h2
theorem qxp (d : List T.Span) (h : ∀ k e,d[k]? = some e → e.frm ≤ e.to ∧ (0 < k → ∃ f,d[k - 1]? = some f ∧ e.frm ≠ f.frm ∧ f.to ≤ e.frm)) : d.Pairwise bef := by
 have key : ∀ (n i : Nat) (a b : T.Span),d[i]? = some a → d[i + n + 1]? = some b → bef a b := by
  intro n
  induction n with
  | zero =>
   intro i a b ha hb
   obtain ⟨h1,h2⟩ := h _ _ hb
   obtain ⟨f,q1,q2,q3⟩ := h2 (by omega)
   simp only [Nat.add_zero,Nat.add_sub_cancel] at q1
   rw [ha] at q1
   cases q1
   have := (h _ _ ha).1
   exact ⟨this,h1,q3,by omega⟩
  | succ n ih =>
   intro i a b ha hb
   obtain ⟨h1,h2⟩ := h _ _ hb
   obtain ⟨f,q1,q2,q3⟩ := h2 (by omega)
   rw [show i + (n + 1) + 1 - 1 = i + n + 1 from by omega] at q1
   obtain ⟨r1,r2,r3,r4⟩ := ih i a f ha q1
   exact ⟨r1,h1,by omega,by omega⟩
 rw [List.pairwise_iff_getElem]
 intro i j hi hj hij
 exact key (j - i - 1) i _ _ (by simp [hi]) (by rw [show i + (j - i - 1) + 1 = j from by omega]; simp [hj])
def bn (a b : T.Span) : Prop := bef a b ∨ bef b a
theorem qpi (l : List T.Span) (hl : l.length < 20) : Tot (q4l ⟨l.isEmpty,l⟩) (fun v => v = true → l.Pairwise bn) := by
 unfold q4l q5y
 by_cases h : l.isEmpty = true
 ·have : l = [] := by simpa using h
  subst this
  simp only [List.isEmpty_nil,if_true,Option.bind_eq_bind,Option.bind_some,z8w]
  rw [q12.eq_1,if_neg (by simp)]
  exact ⟨_,rfl,fun _ => .nil⟩
 ·simp only at h ⊢
  rw [if_neg h,if_pos (q0k (by omega))]
  simp only [Option.bind_eq_bind,Option.bind_some]
  obtain ⟨d,h1,h2,_⟩ := qns l hl
  have h3 := h2.length_eq
  simp only [h1,Option.bind_some]
  obtain ⟨r,q1,q2,q3⟩ := qm6 d (by omega) _ 0 rfl (by omega)
  simp only [q1,Option.bind_some]
  rcases r with r | r
  ·exact ⟨_,rfl,fun h => by rw [q2 r rfl] at h; cases h⟩
  ·refine ⟨_,rfl,fun _ => ?_⟩
   have := (qxp d fun k e hk => q3 r rfl k e (by omega) hk).imp fun {a b} h => (Or.inl h : bn a b)
   exact (h2.pairwise_iff fun {x y} h => h.symm).1 this
theorem zdh (es : Sl T.q9) (hl : es.l.length < 20) : ∀ (m : Nat) (i n : Int),m = (es.l.length - i).toNat → 0 ≤ i → Tot (q1u (n,es,(es.l.length : Int),i)) (fun _ => True) := by
 intro m
 induction m using Nat.strongRecOn with
 | _ m ih =>
 intro i n hm h0
 rw [q1u.eq_1]
 refine Tot.ite (fun hT => ?_) (fun hT => .ret trivial)
 have hT : i < es.l.length := by simpa using hT
 have hw : IntKind.i64.wrap (i + 1) = i + 1 := zk (by omega) (by omega)
 rw [hw]
 refine Tot.bind (Tot.get h0 hT) fun x hx => ?_
 refine Tot.go rfl ?_
 exact ih _ (by omega) _ _ rfl (by omega)
theorem qdo (n : Int) (es : Sl T.q9) (hl : es.l.length < 20) : Tot (q0t n es) (fun v => v = 0 → (∀ e ∈ es.l,okS n e.span) ∧ (es.l.map (·.span)).Pairwise bn) := by
 unfold q0t
 refine Tot.bind (qp3 n es hl _ 0 rfl (by omega)) fun v hv => ?_
 rcases v with v | v
 ·exact .ret fun h => absurd h (hv.1 v rfl)
 ·refine Tot.bind (o := q48 es) (P := fun r => r = ⟨(es.l.map (·.span)).isEmpty,es.l.map (·.span)⟩) ?_ fun sp hsp => ?_
  ·unfold q48
   obtain ⟨r,h1,rfl⟩ := z96 es hl _ 0 rfl (by omega)
   have h1 : q0o (es,(es.l.length : Int),0,[]) = some (es.l.map (·.span)) := h1
   rw [h1]
   exact ⟨_,rfl,rfl⟩
  ·subst hsp
   refine Tot.bind (qpi _ (by simpa using hl)) fun w hw => ?_
   refine Tot.ite (fun _ => .ret (by simp)) (fun hT => ?_)
   refine Tot.bind (o := q47 n es) (P := fun _ => True) ?_ fun g _ => ?_
   ·unfold q47
    exact Tot.bind (zdh es hl _ 0 n rfl (by omega)) fun _ _ => .ret trivial
   ·refine Tot.ite (fun _ => .ret (by simp)) (fun _ => .ret fun _ => ⟨fun e he => ?_,hw (by simpa using hT)⟩)
    obtain ⟨k,hk⟩ := List.getElem?_of_mem he
    exact hv.2 v rfl k e (by omega) hk
end Go.Proofs.YtkbgphcebakcnaaGreat
