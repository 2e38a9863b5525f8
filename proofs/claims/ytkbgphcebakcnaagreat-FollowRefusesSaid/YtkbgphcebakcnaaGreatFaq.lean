/-
  The law FollowRefuses, on plain data: what is wrong with a state, or with edits, is told; else the edits are done.
-/
import Derived.Test.YtkbgphcebakcnaaGreatFap
set_option linter.unusedSimpArgs false
set_option linter.unusedVariables false
namespace Go.Proofs.YtkbgphcebakcnaaGreat
open Go Go.Gm
theorem zci (d : List T.q9) (r : Bool) (hd : d.length < 2 ^ 20) : ∀ (m : Nat) (i a : Int),m = (d.length - i).toNat → 0 ≤ i → Tot (gu (a,r,(d.length : Int),i,d)) (fun _ => True) := by
 intro m
 induction m using Nat.strongRecOn with
 | _ m ih =>
 intro i a hm h0
 rw [gu.eq_1]
 refine Tot.ite (fun hT => ?_) (fun hT => .ret trivial)
 have hT : i < d.length := by simpa using hT
 have hw : IntKind.i64.wrap (i + 1) = i + 1 := zk (by omega) (by omega)
 rw [hw]
 have h := fun a => ih _ (by omega) (i + 1) a rfl (by omega)
 refine Tot.bind (Tot.get h0 hT) fun x hx => ?_
 refine Tot.ite (fun _ => h _) (fun _ => ?_)
 refine Tot.ite (fun _ => Tot.go rfl (h _)) (fun _ => ?_)
 exact Tot.ite (fun _ => h _) (fun _ => h _)
theorem ql7 : ∀ (m : Nat) (d : List T.q9) (a : Nat) (mid : List T.q9) (c : List T.q9),m = mid.length → a = c.length → (c.length + mid.length + a) < 2 ^ 20 → ∀ f : List T.q9,f.length = a → d = f ++ mid ++ c →
  Tot (q1n ((a : Int),(a : Int) + mid.length - 1,d)) (fun r => r = f ++ mid.reverse ++ c) := by
 intro m
 induction m using Nat.strongRecOn with
 | _ m ih =>
 intro d a mid c hm ha hlen f hf hd
 subst hd
 rw [q1n.eq_1]
 refine Tot.ite (fun hT => ?_) (fun hT => ?_)
 rotate_left
 ·have hT : ¬ ((a : Int) < a + mid.length - 1) := by simpa using hT
  refine .ret ?_
  match mid,hT with
  | [],_ => rfl
  | [x],_ => rfl
  | x :: y :: r,hT => simp only [List.length_cons] at hT; omega
 have hT : (a : Int) < a + mid.length - 1 := by simpa using hT
 match mid,hm,hlen,hT with
 | [],_,_,hT => simp only [List.length_nil] at hT; omega
 | x :: r,hm,hlen,hT =>
 rcases List.eq_nil_or_concat r with h | ⟨q,y,h⟩
 ·subst h
  simp only [List.length_cons,List.length_nil] at hT
  omega
 subst h
 simp only [List.concat_eq_append,List.length_cons,List.length_append,List.length_nil] at hm hlen hT ⊢
 have hj : (a : Int) + ((q.length + (0 + 1) + 1 : Nat) : Int) - 1 = ((f ++ x :: q).length : Int) := by simp; omega
 have e1 : f ++ x :: (q ++ [y]) ++ c = (f ++ x :: q) ++ y :: c := by simp
 have e2 : f ++ x :: (q ++ [y]) ++ c = f ++ x :: (q ++ [y] ++ c) := by simp
 rw [hj]
 refine Tot.go (a := y) (by rw [e1]; exact q3y _ _ _ rfl) ?_
 refine Tot.go (a := x) (by rw [e2]; exact q3y _ _ _ (by omega)) ?_
 have s1 : (f ++ x :: (q ++ [y]) ++ c).set ((a : Int)).toNat y = (f ++ y :: q) ++ y :: c := by
  rw [e2,show ((a : Int)).toNat = f.length from by omega,List.set_append_right _ _ (by omega)]
  simp
 have hl2 : (f ++ x :: q).length = (f ++ y :: q).length := by simp
 rw [s1,hl2]
 refine Tot.go (a := y) (q3y _ _ _ rfl) ?_
 have s2 : ((f ++ y :: q) ++ y :: c).set (((f ++ y :: q).length : Nat) : Int).toNat x = (f ++ [y]) ++ q ++ ([x] ++ c) := by
  rw [show (((f ++ y :: q).length : Nat) : Int).toNat = (f ++ y :: q).length from by omega,List.set_append_right _ _ (by omega)]
  simp
 rw [s2]
 have hw1 : IntKind.i64.wrap ((a : Int) + 1) = ((a + 1 : Nat) : Int) := by rw [zk (by omega) (by omega)]; omega
 have hw2 : IntKind.i64.wrap ((((f ++ y :: q).length : Nat) : Int) - 1) = ((a + 1 : Nat) : Int) + q.length - 1 := by
  simp only [List.length_append,List.length_cons]
  rw [zk (by omega) (by omega)]
  omega
 rw [hw1,hw2]
 refine (ih q.length (by omega) _ (a + 1) q ([x] ++ c) rfl (by simp; omega) (by simp; omega) (f ++ [y]) (by simp; omega) rfl).mono fun r hr => ?_
 rw [hr]
 simp
theorem q8v (d : List T.q9) (hd : d.length < 2 ^ 19) : Tot (q1d d) (fun r => r = d.reverse) := by
 unfold q1d
 have h := ql7 _ d 0 d [] rfl rfl (by simp; omega) [] rfl (by simp)
 rw [zk (by omega) (by omega)]
 rw [show ((0 : Nat) : Int) = 0 from rfl,Int.zero_add] at h
 refine Tot.bind h fun v hv => .ret ?_
 simpa using hv
theorem q9x : q1a ⟨true,[]⟩ = some () := by
 unfold q1a
 rw [q7d.eq_1,if_neg (by rw [zk (by simp) (by simp)]; simp)]
 rfl
theorem q9t (es : Sl T.q9) (hl : es.l.length < 20) : Tot (q1c es) (fun r => r = .inl ⟨true,[]⟩ ∨ ∃ d,r = .inr d ∧ d.Perm es.l ∧ d.Pairwise (fun a b => leS a.span b.span)) := by
 unfold q1c q6g
 by_cases h : es.nil = true
 ·rw [if_pos h]
  simp only [Option.bind_eq_bind,Option.bind_some,zcm]
  exact ⟨_,rfl,.inl rfl⟩
 ·rw [if_neg h,if_pos (q0k (by omega))]
  simp only [Option.bind_eq_bind,Option.bind_some]
  obtain ⟨d,h1,h2⟩ := qmi es.l hl
  rw [h1]
  exact ⟨_,rfl,.inr ⟨d,rfl,h2⟩⟩
theorem qae (a : Int) (r : Bool) (es : Sl T.q9) (hl : es.l.length < 20) : Tot (q2w a r es) (fun _ => True) := by
 unfold q2w
 refine Tot.bind (q9t es hl) fun v hv => ?_
 rcases hv with rfl | ⟨d,rfl,hp,_⟩
 ·refine Tot.go q9x ?_
  rw [bq.eq_1,if_neg (by simp)]
  exact ⟨_,rfl,trivial⟩
 ·have := hp.length_eq
  refine Tot.bind (q8v d (by omega)) fun w hw => ?_
  subst hw
  exact Tot.bind (zci _ r (by simp; omega) _ 0 a rfl (by omega)) fun _ _ => .ret trivial
theorem qrf (e : Sl T.q9) (he : e.l.length < 20) (l : Sl T.Sel) (hl : l.l.length < 20) : ∀ (m : Nat) (i : Int) (out : List T.Sel),m = (l.l.length - i).toNat → 0 ≤ i → i ≤ l.l.length → (out.length : Int) = i →
  Tot (q25 (e,l,(l.l.length : Int),i,out)) (fun r => r.length = l.l.length) := by
 intro m
 induction m using Nat.strongRecOn with
 | _ m ih =>
 intro i out hm h0 h1 h2
 rw [q25.eq_1]
 refine Tot.ite (fun hT => ?_) (fun hT => ?_)
 rotate_left
 ·have hT : ¬ (i < l.l.length) := by simpa using hT
  exact .ret (by omega)
 have hT : i < l.l.length := by simpa using hT
 have hw : IntKind.i64.wrap (i + 1) = i + 1 := zk (by omega) (by omega)
 rw [hw]
 refine Tot.bind (Tot.get h0 hT) fun x hx => ?_
 refine Tot.bind (qae _ _ e he) fun v _ => ?_
 refine Tot.bind (qae _ _ e he) fun w _ => ?_
 exact Tot.need (q0k (by omega)) (ih _ (by omega) _ _ rfl (by omega) (by omega) (by simp; omega))
theorem qjw (l : Sl T.Sel) (hl : l.l.length < 20) (e : List T.q9) (he : e.length < 20) : Tot (q41 l e) (fun r => r.l.length ≤ l.l.length) := by
 unfold q41
 refine Tot.bind (qrf ⟨false,e⟩ he l hl _ 0 [] rfl (by omega) (by omega) rfl) fun v hv => ?_
 refine Tot.bind (qda ⟨v.isEmpty,v⟩ (by simp only; omega)) fun w hw => .ret ?_
 simp only at hw
 omega
theorem qmj : q51 ⟨false,[((-1 : Int),(-1 : Int))]⟩ 0 = some [] := by
 unfold q51 q5v q6p
 decide +kernel
theorem zea (b : Bytes) (q : Sl T.Sel) (e : T.q9) (hs : q.l.length < 20) (he : okS b.length e.span) (hn : b.length < 2 ^ 40) (ht : e.text.length < 2 ^ 40) (d : Int) :
  Tot (q0b d (-1) (-1) e true b q []) (fun r => r.2.l.length ≤ q.l.length ∧ (e.span.frm ≤ (r.1.length : Int)) ∧ r.1.length ≤ b.length + e.text.length) := by
 obtain ⟨h1,h2,h3⟩ := he
 unfold q0b
 refine Tot.go qmj ?_
 refine Tot.ite (fun h => by simp at h) (fun _ => ?_)
 refine Tot.go (a := ()) (by rw [q77.eq_1,if_neg (by simp)]) ?_
 refine Tot.bind (Tot.jg h1 (by omega)) fun r hr => ?_
 refine Tot.need (by omega) ?_
 refine Tot.bind (Tot.ji (l := b) (lo := e.span.to) (by omega) h3) fun r2 hq => ?_
 refine Tot.need (by rw [List.length_append]; omega) ?_
 refine Tot.bind (qjw q hs [e] (by simp)) fun s hs' => .ret ?_
 refine ⟨hs', ?_, ?_⟩
 ·simp only [List.length_append]; omega
 ·simp only [List.length_append]; omega
theorem qe7 (d : List T.q9) (hd : d.length < 20) (hp : d.Pairwise (fun a b => b.span.to ≤ a.span.frm)) (ht : ∀ e ∈ d,e.text.length ≤ 60) (ho : ∀ e ∈ d,0 ≤ e.span.frm ∧ e.span.frm ≤ e.span.to) : ∀ (m : Nat) (i : Nat) (b : Bytes) (q : Sl T.Sel),m = d.length - i → q.l.length < 20 →
  b.length ≤ 60 + 60 * i → (∀ k e,i ≤ k → d[k]? = some e → e.span.to ≤ b.length) →
  Tot (uz ((d.length : Int),(i : Int),b,q,[],d)) (fun r => r.2.l.length < 20) := by
 intro m
 induction m using Nat.strongRecOn with
 | _ m ih =>
 intro i b q hm hs hn hk
 rw [uz.eq_1]
 refine Tot.ite (fun hT => ?_) (fun hT => .ret hs)
 have hT : (i : Int) < d.length := by simpa using hT
 have hw : IntKind.i64.wrap ((i : Int) + 1) = ((i + 1 : Nat) : Int) := by rw [zk (by omega) (by omega)]; omega
 have hw2 : IntKind.i64.wrap (((List.length ([] : List T.qb) : Nat) : Int) - 1) = -1 := by decide
 rw [hw,hw2]
 refine Tot.bind (Tot.get (by omega) hT) fun e he => ?_
 have he1 : d[i]? = some e := by simpa using he.1
 refine Tot.ite (fun h => by simp at h) (fun _ => ?_)
 have h1 := ho e he.2
 have h2 := hk i e (by omega) he1
 have h3 := ht e he.2
 refine Tot.bind (zea b q e hs ⟨h1.1,h1.2,h2⟩ (by omega) (by omega) _) fun v hv => ?_
 refine ih _ (by omega) (i + 1) v.1 v.2 rfl (by omega) (by omega) fun k f hk' hf => ?_
 have := List.pairwise_iff_getElem.1 hp i k (by omega) (List.getElem?_eq_some_iff.1 hf).1 (by omega)
 rw [(List.getElem?_eq_some_iff.1 he1).2,(List.getElem?_eq_some_iff.1 hf).2] at this
 omega
theorem z9o (d : List T.q9) : ∀ (m : Nat) (i : Int) (b : Bytes) (q : Sl T.Sel),m = (d.length - i).toNat → 0 ≤ i → (d.length < 20) → q04 ((d.length : Int),i,b,q,[],d) = uz ((d.length : Int),i,b,q,[],d) := by
 intro m
 induction m using Nat.strongRecOn with
 | _ m ih =>
 intro i b q hm h0 hd
 rw [q04.eq_1,uz.eq_1]
 by_cases hT : i < d.length
 ·rw [if_pos (by simpa using hT),if_pos (by simpa using hT),zk (n := i + 1) (by omega) (by omega)]
  have h : ∀ v w,q04 ((d.length : Int),i + 1,v,w,[],d) = uz ((d.length : Int),i + 1,v,w,[],d) := fun v w => ih _ (by omega) (i + 1) v w rfl (by omega) hd
  simp only [h]
 ·rw [if_neg (by simpa using hT),if_neg (by simpa using hT)]
theorem qcz {d : List T.q9} {es : List T.q9} (hp : d.Perm es) (hs : d.Pairwise (fun a b => leS a.span b.span)) (ho : ∀ e ∈ es,0 ≤ e.span.frm ∧ e.span.frm ≤ e.span.to) (ha : (es.map (·.span)).Pairwise bn) :
  d.reverse.Pairwise (fun a b => b.span.to ≤ a.span.frm) := by
 rw [List.pairwise_reverse]
 have h1 : (d.map (·.span)).Pairwise bn := ((hp.map (·.span)).pairwise_iff fun {x y} h => h.symm).2 ha
 rw [List.pairwise_map] at h1
 have h2 : d.Pairwise (fun a b => leS a.span b.span ∧ bn a.span b.span) := List.pairwise_and_iff.2 ⟨hs,h1⟩
 refine h2.imp fun {a b} h => ?_
 obtain ⟨h3,h4⟩ := h
 unfold leS at h3
 unfold bn bef at h4
 omega
theorem zcl (es : Sl T.q9) : ∀ (m : Nat) (i : Int) (n : Int),es.l.length < 20 → m = (es.l.length - i).toNat → 0 ≤ i → 0 ≤ n → n ≤ 60 →
  Tot (q23 (n,es,i)) (fun r => (r = .inl true ∨ r = .inr ()) ∧ (∀ y,r = .inr y → ∀ k e,i.toNat ≤ k → es.l[k]? = some e → e.text.length ≤ 60)) := by
 intro m
 induction m using Nat.strongRecOn with
 | _ m ih =>
 intro i n hl hm h0 h1 h2
 rw [q23.eq_1]
 refine Tot.ite (fun hT => ?_) (fun hT => ?_)
 rotate_left
 ·have hT : ¬ (i < es.l.length) := by simpa using hT
  refine .ret ⟨.inr rfl,fun _ _ k e h1 h2 => ?_⟩
  have := (List.getElem?_eq_some_iff.1 h2).1
  omega
 have hT : i < es.l.length := by simpa using hT
 refine Tot.bind (Tot.get h0 hT) fun x hx => ?_
 refine Tot.ite (fun _ => .ret ⟨.inl rfl,by rintro y h; cases h⟩) (fun h3 => ?_)
 have h3 : ¬ ((x.text.length : Int) > n) := by simpa using h3
 rw [zk (n := i + 1) (by omega) (by omega),zk (n := n - _) (by omega) (by omega)]
 refine (ih _ (by omega) (i + 1) (n - x.text.length) hl rfl (by omega) (by omega) (by omega)).mono fun r hr => ⟨hr.1,fun y hy k e q1 q2 => ?_⟩
 by_cases hk : k = i.toNat
 ·subst hk
  rw [hx.1] at q2
  cases q2
  omega
 ·exact hr.2 y hy k e (by omega) q2
theorem zd5 (b : Bytes) (q : Sl T.Sel) (es : Sl T.q9) (hl : es.l.length < 20) (hb : b.length ≤ 60) (hs : q.l.length < 20) (ht : ∀ e ∈ es.l,e.text.length ≤ 60) (ho : ∀ e ∈ es.l,okS b.length e.span) (ha : (es.l.map (·.span)).Pairwise bn) :
  Tot (q3r es b q []) (fun r => r.2.l.length < 20) := by
 unfold q3r
 refine Tot.bind (q9t es hl) fun v hv => ?_
 rcases hv with rfl | ⟨d,rfl,hp,hd⟩
 ·refine Tot.go q9x ?_
  rw [q3p.eq_1,if_neg (by simp)]
  exact ⟨_,rfl,hs⟩
 ·have hlen := hp.length_eq
  have hok : ∀ e ∈ es.l,0 ≤ e.span.frm ∧ e.span.frm ≤ e.span.to := fun e he => ⟨(ho e he).1,(ho e he).2.1⟩
  refine Tot.bind (q8v d (by omega)) fun w hw => ?_
  subst hw
  have hmem : ∀ e ∈ d.reverse,e ∈ es.l := fun e he => hp.mem_iff.1 (by simpa using he)
  rw [z9o _ _ 0 b q rfl (by omega) (by simp; omega)]
  exact Tot.bind (qe7 d.reverse (by simp; omega) (qcz hp hd hok ha) (fun e he => ht e (hmem e he)) (fun e he => hok e (hmem e he)) _ 0 b q rfl hs (by omega)
   (fun k e _ hk => (ho e (hmem e (List.mem_of_getElem? hk))).2.2)) fun r hr => .ret hr
theorem z0v (b : Bytes) (q : List T.Sel) (es : Sl T.q9) (hl : es.l.length < 20) (hb : b.length ≤ 60) (hs : q.length < 20) (ht : ∀ e ∈ es.l,e.text.length ≤ 60) (ho : ∀ e ∈ es.l,okS b.length e.span) (ha : (es.l.map (·.span)).Pairwise bn) :
  Tot (q3o es b q []) (fun r => r.2.l.length < 20) := by
 unfold q3o
 refine Tot.bind (q9t es hl) fun v hv => ?_
 rcases hv with rfl | ⟨d,rfl,hp,hd⟩
 ·refine Tot.go q9x ?_
  rw [q2d.eq_1,if_neg (by simp)]
  exact ⟨_,rfl,hs⟩
 ·have hlen := hp.length_eq
  have hok : ∀ e ∈ es.l,0 ≤ e.span.frm ∧ e.span.frm ≤ e.span.to := fun e he => ⟨(ho e he).1,(ho e he).2.1⟩
  refine Tot.bind (q8v d (by omega)) fun w hw => ?_
  subst hw
  have hmem : ∀ e ∈ d.reverse,e ∈ es.l := fun e he => hp.mem_iff.1 (by simpa using he)
  exact Tot.bind (qe7 d.reverse (by simp; omega) (qcz hp hd hok ha) (fun e he => ht e (hmem e he)) (fun e he => hok e (hmem e he)) _ 0 b ⟨false,q⟩ rfl hs (by omega)
   (fun k e _ hk => (ho e (hmem e (List.mem_of_getElem? hk))).2.2)) fun r hr => .ret hr
theorem qcw (b : Bytes) (q : Sl T.Sel) : tu b q [] = some 0 := by
 unfold tu
 have hw2 : IntKind.i64.wrap (((List.length ([] : List T.qb) : Nat) : Int) - 1) = -1 := by decide
 rw [hw2,q2p.eq_1,if_neg (by simp)]
 rfl
theorem qcx (b : Bytes) (q : Sl T.Sel) : q0e b q [] = some () := by
 unfold q0e
 rw [q5w.eq_1,if_neg (by simp)]
 rfl
theorem qay (q : Sl T.Sel) (hs : q.l.length < 20) : Tot (ni q) (fun r => ∀ d,r = .inr d → d.length < 20) := by
 unfold ni
 refine Tot.ite (fun _ => .ret (by simp)) (fun _ => Tot.need (q0k (by omega)) (.ret fun d h => ?_))
 cases h
 exact hs
theorem qc0 (b : Bytes) (q : Sl T.Sel) (hs : q.l.length < 20) : Tot (q0q b q []) (fun _ => True) := by
 unfold q0q
 rw [q3g.eq_1,if_neg (by simp)]
 refine Tot.go rfl ?_
 refine Tot.bind (o := q4d b q []) (P := fun _ => True) ?_ fun _ _ => .ret trivial
 unfold q4d
 refine Tot.go (a := ()) (by rw [q6m.eq_1,if_neg (by simp)]) ?_
 refine Tot.bind (qay q hs) fun r _ => ?_
 rcases r with r | r
 ·exact .ret trivial
 ·exact .ret trivial
theorem zb6 (n : Int) (b : Bytes) (q : Sl T.Sel) : q4r n ⟨true,[]⟩ ⟨true,[]⟩ 0 0 b q = some (.inr ()) := by
 rw [q4r.eq_1,if_neg (by simp)]
def zst : T.State := T.State.mk [] ⟨true,[]⟩ ⟨true,[]⟩
theorem qa0 : q1f zst [] = some true := by
 unfold q1f zst
 rw [if_neg (by simp)]
 refine Eq.trans (b := some true) ?_ rfl
 rw [q63.eq_1,if_neg (by simp)]
 simp only [Option.bind_eq_bind,Option.bind_some]
 rw [q6t.eq_1,if_neg (by simp)]
 rfl
theorem qs3 (b : Bytes) (q : Sl T.Sel) (es : Sl T.q9) (hl : es.l.length < 20) (hb : b.length ≤ 60) (hs : q.l.length < 20) (ht : ∀ e ∈ es.l,e.text.length ≤ 60) (nr : Sl T.Sel × Int) (hn : q1h (b.length : Int) q = some nr) (sm : Bool) (hsm : bz nr.1 q = some sm) (m : Int) (hm : q0t (b.length : Int) es = some m) :
  ∃ st,ma b q es = some (if nr.2 ≠ 0 ∨ sm = false then (zst,2) else if m ≠ 0 then (zst,m) else (st,0)) := by
 have hmay : q56 b q = some (decide (nr.2 = 0) && sm) := by
  unfold q56
  simp only [hn,Option.bind_eq_bind,Option.bind_some,zb6]
  by_cases h0 : nr.2 = 0
  ·rw [if_neg (by simp [h0]; omega)]
   have he : q13 nr.1 q = some sm := by
    by_cases hq : nr.1.l.length < 2 ^ 30
    ·obtain ⟨r,h1,h2⟩ := same_eq nr.1 q hq
     rw [hsm] at h1
     cases h1
     exact h2
    ·unfold bz at hsm
     have hne : (nr.1.l.length : Int) ≠ (q.l.length : Int) := by omega
     rw [if_pos (by simpa using hne)] at hsm
     unfold q13
     rw [if_pos (by simpa using hne)]
     exact hsm
   simp only [he,Option.bind_some]
   cases sm <;> simp [h0]
  ·rw [if_pos (by simp [h0])]
   simp [h0]
 unfold ma
 simp only [hmay,Option.bind_eq_bind,Option.bind_some,hm]
 by_cases h1 : nr.2 ≠ 0 ∨ sm = false
 ·refine ⟨zst, ?_⟩
  rw [if_pos h1,if_pos (by rcases h1 with h1 | h1 <;> simp [h1])]
  rfl
 rw [not_or] at h1
 simp only [ne_eq,Classical.not_not,Bool.not_eq_false] at h1
 by_cases h2 : m = 0
 rotate_left
 ·refine ⟨zst, ?_⟩
  rw [if_neg (by simp [h1]),if_pos (by simpa using h2),if_neg (by simp [h1]),if_pos h2]
  rfl
 obtain ⟨m',hm',hgood⟩ := qdo (b.length : Int) es hl
 rw [hm] at hm'
 cases hm'
 obtain ⟨ho,ha⟩ := hgood h2
 have fin : ∃ st,(q4j b q >>= fun v8 => match v8 with
   | .inl y9 =>
    q46 es b y9.1 y9.2 >>= fun v11 =>
    q3r es b y9.1 y9.2 >>= fun v13 =>
    tu v13.1 v13.2 y9.2 >>= fun v15 =>
    if (v15 != (0 : Int)) then
     some (zst,v15)
    else
     q0e v13.1 v13.2 y9.2 >>= fun v18 =>
     q0q v13.1 v13.2 y9.2 >>= fun v20 =>
     some (v20,(0 : Int))
   | .inr y21 =>
    q4x es b y21.1 y21.2 >>= fun v23 =>
    q3o es b y21.1 y21.2 >>= fun v25 =>
    tu v25.1 v25.2 y21.2 >>= fun v27 =>
    if (v27 != (0 : Int)) then
     some (zst,v27)
    else
     q0e v25.1 v25.2 y21.2 >>= fun v30 =>
     q0q v25.1 v25.2 y21.2 >>= fun v32 =>
     some (v32,(0 : Int))) = some (st,0) := by
  unfold q4j
  obtain ⟨c,hc,hc2⟩ := qay q hs
  simp only [hc,Option.bind_eq_bind,Option.bind_some]
  rcases c with c | c
  ·dsimp only
   rw [q6y.eq_1,if_neg (by simp)]
   simp only [Option.bind_some]
   have hc3 : c.l.length < 20 := by
    unfold ni at hc
    split at hc
    ·cases hc; simp
    ·split at hc <;> cases hc
   obtain ⟨r,h3,h4⟩ := zd5 b c es hl hb hc3 ht ho ha
   obtain ⟨s,h5,_⟩ := qc0 r.1 r.2 h4
   unfold q46
   rw [q5t.eq_1,if_neg (by simp)]
   simp only [Option.bind_eq_bind,Option.bind_some,h3,qcw,qcx,h5]
   exact ⟨s,rfl⟩
  ·dsimp only
   rw [q6u.eq_1,if_neg (by simp)]
   simp only [Option.bind_some]
   obtain ⟨r,h3,h4⟩ := z0v b c es hl hb (hc2 c rfl) ht ho ha
   obtain ⟨s,h5,_⟩ := qc0 r.1 r.2 h4
   unfold q4x
   rw [q5k.eq_1,if_neg (by simp)]
   simp only [Option.bind_eq_bind,Option.bind_some,h3,qcw,qcx,h5]
   exact ⟨s,rfl⟩
 obtain ⟨st,hst⟩ := fin
 refine ⟨st, ?_⟩
 rw [if_neg (by simp [h1]),if_neg (by simp [h2]),if_neg (by simp [h1]),if_neg (by simp [h2])]
 exact hst
theorem z08 (text : Bytes) (q : Sl T.Sel) (es : Sl T.q9) : q6q text q es = some true := by
 have ha : ∀ n : Bool,aw5 = some true := fun _ => rfl
 unfold q6q
 by_cases h1 : (text.length : Int) > 60 ∨ (q.l.length : Int) > 8
 ·rw [if_pos (by simpa using h1)]
  rfl
 rw [if_neg (by simpa using h1)]
 rw [not_or] at h1
 have hmuch : Tot (q43 4 60 es) (fun v => v = false → es.l.length < 20 ∧ ∀ e ∈ es.l,e.text.length ≤ 60) := by
  unfold q43
  refine Tot.ite (fun _ => .ret (by simp)) (fun hT => ?_)
  have hT : ¬ ((es.l.length : Int) > 4) := by simpa using hT
  refine Tot.bind (zcl es _ 0 60 (by omega) rfl (by omega) (by omega) (by omega)) fun v hv => ?_
  rcases hv.1 with rfl | rfl
  ·exact .ret (by simp)
  ·refine .ret fun _ => ⟨by omega,fun e he => ?_⟩
   obtain ⟨k,hk⟩ := List.getElem?_of_mem he
   exact hv.2 () rfl k e (by simp) hk
 obtain ⟨v,hv,hv2⟩ := hmuch
 simp only [hv,Option.bind_eq_bind,Option.bind_some]
 cases v
 rotate_left
 ·rfl
 obtain ⟨hl,ht⟩ := hv2 rfl
 obtain ⟨nr,hn,_⟩ := qz1 (text.length : Int) q (by omega)
 obtain ⟨sm,hsm⟩ : ∃ sm,bz nr.1 q = some sm := by
  by_cases hq : nr.1.l.length < 2 ^ 30
  ·obtain ⟨r,h1,_⟩ := same_eq nr.1 q hq
   exact ⟨r,h1⟩
  ·unfold bz
   have hne : (nr.1.l.length : Int) ≠ (q.l.length : Int) := by omega
   rw [if_pos (by simpa using hne)]
   exact ⟨_,rfl⟩
 obtain ⟨m,hm,_⟩ := qdo (text.length : Int) es hl
 obtain ⟨st,hdo⟩ := qs3 text q es hl (by omega) (by omega) ht nr hn sm hsm m hm
 by_cases h0 : nr.2 = 0
 ·cases sm
  ·have hd : ma text q es = some (zst,2) := by rw [hdo,if_pos (.inr rfl)]
   simp [hd,hm,hn,hsm,h0,qa0,aw5]
  ·by_cases hm0 : m = 0
   ·have hd : ma text q es = some (st,0) := by rw [hdo,if_neg (by simp [h0]),if_neg (by simp [hm0])]
    simp [hd,hm,hn,hsm,h0,hm0,aw5]
   ·have hd : ma text q es = some (zst,m) := by rw [hdo,if_neg (by simp [h0]),if_pos hm0]
    simp [hd,hm,hn,hsm,h0,hm0,qa0,aw5]
 ·have hd : ma text q es = some (zst,2) := by rw [hdo,if_pos (.inl h0)]
  simp [hd,hm,hn,h0,qa0,aw5]
end Go.Proofs.YtkbgphcebakcnaaGreat
