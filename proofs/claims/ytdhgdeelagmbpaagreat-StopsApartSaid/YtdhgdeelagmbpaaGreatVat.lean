/-
  What may be: stops, by their places.
-/
import Derived.Test.YtdhgdeelagmbpaaGreatVas
set_option linter.unusedSimpArgs false
set_option linter.unusedVariables false
namespace Go.Proofs.YtdhgdeelagmbpaaGreat
open Go Go.Gm
def Holds (P : List Pt) (n m : Int) : Prop := ∃ (d e : Nat) (x y : Pt),P[d]? = some x ∧ x.kind = 1 ∧ x.def_ = true ∧ x.n = n ∧ d < e ∧ (e : Int) < x.end_ ∧ P[e]? = some y ∧ y.kind = 1 ∧ y.n = m
def qdl (P : List Pt) : Prop := ∀ n,¬ Relation.TransGen (Holds P) n n
theorem qgu : ∀ {a b : List Int},a.Nodup → (∀ x ∈ a,x ∈ b) → a.length ≤ b.length
 | [],b,_,_ => Nat.zero_le _
 | x :: a,b,h,hb => by
  rw [List.nodup_cons] at h
  have hx := hb x (by simp)
  have h1 : ∀ y ∈ a,y ∈ b.erase x := fun y hy => by
   have hne : y ≠ x := fun e => h.1 (e ▸ hy)
   exact (List.mem_erase_of_ne hne).2 (hb y (by simp [hy]))
  have h2 := qgu h.2 h1
  have h3 := List.length_erase_of_mem hx
  have h4 := List.length_pos_of_mem hx
  simp only [List.length_cons]
  omega
section
variable {env : Sl T.qi} {lead unit : Bytes}
theorem qx7 (P : List Pt) (ds : List Int) (ns : List Bytes) (hl : P.length ≤ 40000000) (d : Nat) (x : Pt) (hd : P[d]? = some x) (he : x.end_ ≤ P.length) : ∀ (m i : Nat) (l : List Int),m = (x.end_ - i).toNat → l.length ≤ 100000000 - m →
  Tot (q2m ((d : Int),(i : Int),env,lead,unit,P,ds,ns,l)) (fun v => (∀ n,n ∈ v ↔ n ∈ l ∨ ∃ (j : Nat) (y : Pt),i ≤ j ∧ (j : Int) < x.end_ ∧ P[j]? = some y ∧ y.kind = 1 ∧ y.n = n) ∧ (l.Nodup → v.Nodup)) := by
 intro m
 induction m using Nat.strongRecOn with
 | _ m ih =>
 intro i l hm hll
 have hdl := (List.getElem?_eq_some_iff.1 hd).1
 have hgd : qh P (d : Int) = some x := by rw [xw hdl]; simpa [List.getElem?_eq_getElem hdl] using hd
 rw [q2m.eq_1]
 refine Tot.go hgd ?_
 (apply Tot.ite <;> intro hT <;> try simp (disch := omega) only [tfx.down,q9,qa] at hT)
 ·have hi := hT
  refine Tot.bind (Tot.get (by omega) (by omega)) fun y hy => ?_
  have hyi : P[i]? = some y := by simpa using hy.1
  rw [wr (n := (i : Int) + 1) (by omega) (by omega),show ((i : Int) + 1) = ((i + 1 : Nat) : Int) by omega]
  have next : ∀ l',l'.length ≤ l.length + 1 → (∀ n,n ∈ l' ↔ n ∈ l ∨ (y.kind = 1 ∧ y.n = n)) → (l.Nodup → l'.Nodup) →
    Tot (q2m ((d : Int),((i + 1 : Nat) : Int),env,lead,unit,P,ds,ns,l')) (fun v => (∀ n,n ∈ v ↔ n ∈ l ∨ ∃ (j : Nat) (y : Pt),i ≤ j ∧ (j : Int) < x.end_ ∧ P[j]? = some y ∧ y.kind = 1 ∧ y.n = n) ∧ (l.Nodup → v.Nodup)) := by
   intro l' h1 h2 h3
   refine (ih _ (by omega) (i + 1) l' rfl (by omega)).mono fun v hv => ⟨fun n => ?_,fun h => hv.2 (h3 h)⟩
   rw [hv.1 n,h2 n]
   constructor
   ·rintro ((h | h) | ⟨j,z,j1,j2,j3,j4,j5⟩)
    ·exact .inl h
    ·exact .inr ⟨i,y,Nat.le_refl _,hi,hyi,h.1,h.2⟩
    ·exact .inr ⟨j,z,by omega,j2,j3,j4,j5⟩
   ·rintro (h | ⟨j,z,j1,j2,j3,j4,j5⟩)
    ·exact .inl (.inl h)
    ·rcases Nat.eq_or_lt_of_le j1 with rfl | j1
     ·rw [hyi] at j3
      cases j3
      exact .inl (.inr ⟨j4,j5⟩)
     ·exact .inr ⟨j,z,j1,j2,j3,j4,j5⟩
  (apply Tot.ite <;> intro hT <;> try simp (disch := omega) only [tfx.down,q9,qa] at hT)
  ·have hk := hT
   refine Tot.bind (q8z y.n l (by omega)) fun w hw => ?_
   (apply Tot.ite <;> intro hT <;> try simp (disch := omega) only [tfx.down,q9,qa] at hT)
   ·have hw1 := hT
    have hnot : y.n ∉ l := fun h => by have := hw.2 h; rw [hw1] at this; cases this
    refine Tot.need (by simp only [ql,Bool.and_eq_true,decide_eq_true_eq]; omega) (next _ (by simp) (fun n => ?_) (fun h => ?_))
    ·simp only [List.mem_append,List.mem_singleton,hk,true_and]
     exact or_congr_right eq_comm
    ·refine List.nodup_append.2 ⟨h,by simp,fun a ha b hb => ?_⟩
     simp only [List.mem_singleton] at hb
     subst hb
     exact fun e => hnot (e ▸ ha)
   ·have hw1 := hw.1 hT
    refine next l (by omega) (fun n => ?_) id
    constructor
    ·exact .inl
    ·rintro (h | ⟨_,rfl⟩)
     ·exact h
     ·exact hw1
  ·have hk := hT
   exact next l (by omega) (fun n => ⟨.inl,fun h => h.elim id fun h => absurd h.1 hk⟩) id
 ·have hi := hT
  refine .ret ⟨fun n => ⟨.inl,fun h => h.elim id ?_⟩,id⟩
  rintro ⟨j,z,j1,j2,_⟩
  omega
theorem zb1 (P : List Pt) (ds : List Int) (ns : List Bytes) (hl : P.length ≤ 40000000) (d : Nat) (x : Pt) (hd : P[d]? = some x) (he : x.end_ ≤ P.length) : ∀ (m i : Nat) (l : List Int),m = (x.end_ - i).toNat → l.length ≤ 100000000 - m →
  Tot (q2u ((d : Int),(i : Int),env,lead,unit,l,P,ds,ns)) (fun v => (∀ n,n ∈ v ↔ n ∈ l ∨ ∃ (j : Nat) (y : Pt),i ≤ j ∧ (j : Int) < x.end_ ∧ P[j]? = some y ∧ y.kind = 1 ∧ y.n = n) ∧ (l.Nodup → v.Nodup) ∧ ∃ t,v = l ++ t) := by
 intro m
 induction m using Nat.strongRecOn with
 | _ m ih =>
 intro i l hm hll
 have hdl := (List.getElem?_eq_some_iff.1 hd).1
 have hgd : qh P (d : Int) = some x := by rw [xw hdl]; simpa [List.getElem?_eq_getElem hdl] using hd
 rw [q2u.eq_1]
 refine Tot.go hgd ?_
 (apply Tot.ite <;> intro hT <;> try simp (disch := omega) only [tfx.down,q9,qa] at hT)
 ·have hi := hT
  refine Tot.bind (Tot.get (by omega) (by omega)) fun y hy => ?_
  have hyi : P[i]? = some y := by simpa using hy.1
  rw [wr (n := (i : Int) + 1) (by omega) (by omega),show ((i : Int) + 1) = ((i + 1 : Nat) : Int) by omega]
  have next : ∀ l',l'.length ≤ l.length + 1 → (∀ n,n ∈ l' ↔ n ∈ l ∨ (y.kind = 1 ∧ y.n = n)) → (l.Nodup → l'.Nodup) → (∃ t,l' = l ++ t) →
    Tot (q2u ((d : Int),((i + 1 : Nat) : Int),env,lead,unit,l',P,ds,ns)) (fun v => (∀ n,n ∈ v ↔ n ∈ l ∨ ∃ (j : Nat) (y : Pt),i ≤ j ∧ (j : Int) < x.end_ ∧ P[j]? = some y ∧ y.kind = 1 ∧ y.n = n) ∧ (l.Nodup → v.Nodup) ∧ ∃ t,v = l ++ t) := by
   intro l' h1 h2 h3 h4
   refine (ih _ (by omega) (i + 1) l' rfl (by omega)).mono fun v hv => ⟨fun n => ?_,fun h => hv.2.1 (h3 h), ?_⟩
   ·rw [hv.1 n,h2 n]
    constructor
    ·rintro ((h | h) | ⟨j,z,j1,j2,j3,j4,j5⟩)
     ·exact .inl h
     ·exact .inr ⟨i,y,Nat.le_refl _,hi,hyi,h.1,h.2⟩
     ·exact .inr ⟨j,z,by omega,j2,j3,j4,j5⟩
    ·rintro (h | ⟨j,z,j1,j2,j3,j4,j5⟩)
     ·exact .inl (.inl h)
     ·rcases Nat.eq_or_lt_of_le j1 with rfl | j1
      ·rw [hyi] at j3
       cases j3
       exact .inl (.inr ⟨j4,j5⟩)
      ·exact .inr ⟨j,z,j1,j2,j3,j4,j5⟩
   ·obtain ⟨t1,rfl⟩ := h4
    obtain ⟨t2,h⟩ := hv.2.2
    exact ⟨t1 ++ t2,by rw [h,List.append_assoc]⟩
  (apply Tot.ite <;> intro hT <;> try simp (disch := omega) only [tfx.down,q9,qa] at hT)
  ·have hk := hT
   refine Tot.bind (q8z y.n l (by omega)) fun w hw => ?_
   (apply Tot.ite <;> intro hT <;> try simp (disch := omega) only [tfx.down,q9,qa] at hT)
   ·have hw1 := hT
    have hnot : y.n ∉ l := fun h => by have := hw.2 h; rw [hw1] at this; cases this
    refine Tot.need (by simp only [ql,Bool.and_eq_true,decide_eq_true_eq]; omega) (next _ (by simp) (fun n => ?_) (fun h => ?_) ⟨_,rfl⟩)
    ·simp only [List.mem_append,List.mem_singleton,hk,true_and]
     exact or_congr_right eq_comm
    ·refine List.nodup_append.2 ⟨h,by simp,fun a ha b hb => ?_⟩
     simp only [List.mem_singleton] at hb
     subst hb
     exact fun e => hnot (e ▸ ha)
   ·have hw1 := hw.1 hT
    refine next l (by omega) (fun n => ?_) id ⟨[],by simp⟩
    constructor
    ·exact .inl
    ·rintro (h | ⟨_,rfl⟩)
     ·exact h
     ·exact hw1
  ·have hk := hT
   exact next l (by omega) (fun n => ⟨.inl,fun h => h.elim id fun h => absurd h.1 hk⟩) id ⟨[],by simp⟩
 ·have hi := hT
  refine .ret ⟨fun n => ⟨.inl,fun h => h.elim id ?_⟩,id,[],by simp⟩
  rintro ⟨j,z,j1,j2,_⟩
  omega
theorem qdr : ∀ {P : List Pt} {i j : Nat} {x y : Pt},(defs P).Nodup → P[i]? = some x → P[j]? = some y → x.def_ = true → y.def_ = true → x.n = y.n → i = j
 | [],i,j,x,y,_,h1,_,_,_,_ => by simp at h1
 | z :: P,i,j,x,y,hn,h1,h2,d1,d2,e => by
  have tail : (defs P).Nodup := by
   unfold defs at hn ⊢
   rw [List.filter_cons] at hn
   split at hn
   ·exact (List.nodup_cons.1 (by simpa using hn)).2
   ·exact hn
  have mem : ∀ {k : Nat} {w : Pt},P[k]? = some w → w.def_ = true → w.n ∈ defs P := fun h hd =>
   List.mem_map.2 ⟨_,List.mem_filter.2 ⟨List.mem_of_getElem? h,hd⟩,rfl⟩
  have head : z.def_ = true → z.n ∉ defs P := by
   intro hz
   unfold defs at hn ⊢
   rw [List.filter_cons,if_pos hz] at hn
   exact (List.nodup_cons.1 (by simpa using hn)).1
  cases i with
  | zero =>
   cases j with
   | zero => rfl
   | succ j =>
    simp only [List.getElem?_cons_zero,Option.some.injEq,List.getElem?_cons_succ] at h1 h2
    subst h1
    exact absurd (e ▸ mem h2 d2) (head d1)
  | succ i =>
   cases j with
   | zero =>
    simp only [List.getElem?_cons_zero,Option.some.injEq,List.getElem?_cons_succ] at h1 h2
    subst h2
    exact absurd (e ▸ mem h1 d1) (head d2)
   | succ j =>
    simp only [List.getElem?_cons_succ] at h1 h2
    rw [qdr tail h1 h2 d1 d2 e]
theorem Good.end_ {P : List Pt} (hP : Good P) {i : Nat} {x : Pt} (h : P[i]? = some x) : (i : Int) < x.end_ ∧ x.end_ ≤ P.length := by
 have := hP.seg.end_ i x h
 simpa using this
theorem qrl (P : List Pt) (ds : List Int) (ns : List Bytes) (hP : Good P) (i : Int) : ∀ (m k : Nat) (l : List Int),m = P.length + 1 - k → l.Nodup → (∀ n ∈ l,n ∈ P.map (·.n)) → (∀ (j : Nat) (n : Int),j < k → l[j]? = some n → ∀ n',Holds P n n' → n' ∈ l) → k ≤ l.length →
  Tot (q4l (i,(k : Int),env,lead,unit,P,ds,ns,l)) (fun v => (∀ n ∈ l,n ∈ v) ∧ (∀ n ∈ v,∀ n',Holds P n n' → n' ∈ v) ∧ v.length ≤ P.length) := by
 have hl := hP.len
 intro m
 induction m using Nat.strongRecOn with
 | _ m ih =>
 intro k l hm hnd hsub hcl hkl
 have hll : l.length ≤ P.length := by simpa using qgu hnd hsub
 rw [q4l.eq_1]
 (apply Tot.ite <;> intro hT <;> try simp (disch := omega) only [tfx.down,q9,qa] at hT)
 ·have hk := hT
  refine Tot.bind (Tot.get (by omega) (by omega)) fun n hn => ?_
  have hnk : l[k]? = some n := by simpa using hn.1
  rw [wr (n := (k : Int) + 1) (by omega) (by omega),show ((k : Int) + 1) = ((k + 1 : Nat) : Int) by omega]
  refine Tot.bind (qfn n P ds ns hl) fun v hv => ?_
  (apply Tot.ite <;> intro hT <;> try simp (disch := omega) only [tfx.down,q9,qa] at hT)
  ·have hv0 := hT
   rcases hv with ⟨rfl,_⟩ | ⟨d,x,rfl,hd,x1,x2,x3⟩
   ·omega
   ·have he := hP.end_ hd
    have h2 := zb1 (env := env) (lead := lead) (unit := unit) P ds ns hl d x hd he.2 _ (d + 1) l rfl (by omega)
    have h2' : Tot (q9s (d : Int) env lead unit l P ds ns) (fun v => (∀ n,n ∈ v ↔ n ∈ l ∨ ∃ (j : Nat) (y : Pt),d + 1 ≤ j ∧ (j : Int) < x.end_ ∧ P[j]? = some y ∧ y.kind = 1 ∧ y.n = n) ∧ (l.Nodup → v.Nodup) ∧ ∃ t,v = l ++ t) := by
     unfold q9s
     rw [wr (n := (d : Int) + 1) (by have := he.1; omega) (by omega),show ((d : Int) + 1) = ((d + 1 : Nat) : Int) by omega]
     exact Tot.bind h2 fun v hv => .ret hv
    refine Tot.bind h2' fun w hw => ?_
    obtain ⟨t,ht⟩ := hw.2.2
    have hwn := hw.2.1 hnd
    have hsub2 : ∀ n ∈ w,n ∈ P.map (·.n) := by
     intro q hq
     rcases (hw.1 q).1 hq with h | ⟨j,y,_,_,j3,_,j5⟩
     ·exact hsub q h
     ·exact List.mem_map.2 ⟨y,List.mem_of_getElem? j3,j5⟩
    have hmono : ∀ q ∈ l,q ∈ w := fun q hq => (hw.1 q).2 (.inl hq)
    refine (ih _ (by omega) (k + 1) w rfl hwn hsub2 ?_ (by rw [ht]; simp; omega)).mono fun v hv => ⟨fun q hq => hv.1 q (hmono q hq),hv.2⟩
    intro j q hj hq n' hn'
    by_cases hjk : j = k
    ·subst hjk
     have hqn : q = n := by
      rw [ht,List.getElem?_append_left (by omega),hnk] at hq
      exact (Option.some.inj hq).symm
     subst hqn
     obtain ⟨d',e,x',y,p1,p2,p3,p4,p5,p6,p7,p8,p9⟩ := hn'
     have hdd : d' = d := qdr hP.un p1 hd p3 x2 (p4.trans x3.symm)
     subst hdd
     rw [hd] at p1
     cases p1
     exact (hw.1 n').2 (.inr ⟨e,y,by omega,p6,p7,p8,p9⟩)
    ·have hq' : l[j]? = some q := by
      rw [ht,List.getElem?_append_left (by omega)] at hq
      exact hq
     exact hmono n' (hcl j q (by omega) hq' n' hn')
  ·have hv0 := hT
   refine ih _ (by omega) (k + 1) l rfl hnd hsub ?_ (by omega)
   intro j q hj hq n' hn'
   by_cases hjk : j = k
   ·subst hjk
    rw [hnk] at hq
    cases hq
    obtain ⟨d',e,x',y,p1,p2,p3,p4,_⟩ := hn'
    rcases hv with ⟨_,hv⟩ | ⟨d,x,rfl,_⟩
    ·exact absurd p4 (hv x' (List.mem_of_getElem? p1) p2 p3)
    ·omega
   ·exact hcl j q (by omega) hq n' hn'
 ·refine .ret ⟨fun _ h => h,fun n hn n' hn' => ?_,hll⟩
  obtain ⟨j,hj⟩ := List.getElem?_of_mem hn
  exact hcl j n (by have := (List.getElem?_eq_some_iff.1 hj).1; omega) hj n' hn'
theorem zc0 (P : List Pt) (ds : List Int) (ns : List Bytes) (hP : Good P) : Tot (qbl env lead unit P ds ns) (fun v => v = false → qdl P) := by
 have hl := hP.len
 have key : ∀ (q : List Pt) (k : Nat),P.drop k = q → Tot (q1f ((k : Int),env,lead,unit,P,ds,ns)) (fun v => match v with | .inl v => v = true | .inr _ => ∀ (d : Nat) (x : Pt),k ≤ d → P[d]? = some x → x.kind = 1 → x.def_ = true → ¬ Relation.TransGen (Holds P) x.n x.n) := by
  intro q
  induction q with
  | nil =>
   intro k hk
   rw [q1f.eq_1,if_neg (by simpa using zw hk)]
   refine .ret fun d x hd h => ?_
   have := nz hk
   have := (List.getElem?_eq_some_iff.1 h).1
   omega
  | cons x q ih =>
   intro k hk
   obtain ⟨a1,a2,a3,a4⟩ := zq hk
   obtain ⟨b1,_,_⟩ := drop_cons hk
   have next : (x.kind = 1 → x.def_ = true → ¬ Relation.TransGen (Holds P) x.n x.n) → Tot (q1f (((k + 1 : Nat) : Int),env,lead,unit,P,ds,ns)) (fun v => match v with | .inl v => v = true | .inr _ => ∀ (d : Nat) (x : Pt),k ≤ d → P[d]? = some x → x.kind = 1 → x.def_ = true → ¬ Relation.TransGen (Holds P) x.n x.n) := by
    intro h
    refine (ih (k + 1) a3).mono fun v hv => ?_
    rcases v with v | v
    ·exact hv
    ·intro d y hd hy h1 h2
     rcases Nat.eq_or_lt_of_le hd with rfl | hd
     ·rw [b1] at hy
      cases hy
      exact h h1 h2
     ·exact hv d y hd hy h1 h2
   rw [q1f.eq_1,if_pos (by simpa using a1),wrS (by omega) a1]
   refine Tot.go a2 ?_
   (apply Tot.ite <;> intro hT <;> try simp (disch := omega) only [tfx.down,q9,qa] at hT)
   ·have h0 := hT
    exact next fun h => absurd h h0
   have h1 := hT
   (apply Tot.ite <;> intro hT <;> try simp (disch := omega) only [tfx.down,q9,qa] at hT)
   ·have h0 := hT
    exact next fun _ h => by rw [h0] at h; cases h
   have h2 := hT
   have he := hP.end_ b1
   have hin : Tot (qbo (k : Int) env lead unit P ds ns) (fun v => (∀ n,n ∈ v ↔ n ∈ ([] : List Int) ∨ ∃ (j : Nat) (y : Pt),k + 1 ≤ j ∧ (j : Int) < x.end_ ∧ P[j]? = some y ∧ y.kind = 1 ∧ y.n = n) ∧ (([] : List Int).Nodup → v.Nodup)) := by
    unfold qbo
    rw [wr (n := (k : Int) + 1) (by omega) (by omega),show ((k : Int) + 1) = ((k + 1 : Nat) : Int) by omega]
    exact Tot.bind (qx7 P ds ns hl k x b1 he.2 _ (k + 1) [] rfl (by simp)) fun v hv => .ret hv
   refine Tot.bind hin fun v hv => ?_
   have hvn := hv.2 (by simp)
   have hvs : ∀ n ∈ v,n ∈ P.map (·.n) := by
    intro q hq
    rcases (hv.1 q).1 hq with h | ⟨j,y,_,_,j3,_,j5⟩
    ·cases h
    ·exact List.mem_map.2 ⟨y,List.mem_of_getElem? j3,j5⟩
   have hc := qrl (env := env) (lead := lead) (unit := unit) P ds ns hP (k : Int) _ 0 v rfl hvn hvs (fun j n hj => by omega) (Nat.zero_le _)
   refine Tot.bind hc fun w hw => ?_
   have hmany : w.length ≤ 1099511627776 := by have := hw.2.2; omega
   refine Tot.bind (q8z x.n w hmany) fun y hy => ?_
   (apply Tot.ite <;> intro hT <;> try simp (disch := omega) only [tfx.down,q9,qa] at hT)
   ·exact .ret rfl
   ·have hy1 := hT
    refine next fun _ _ hloop => ?_
    have all : ∀ m,Relation.TransGen (Holds P) x.n m → m ∈ w := by
     intro m hm
     induction hm with
     | single h =>
      obtain ⟨d',e,x',z,p1,p2,p3,p4,p5,p6,p7,p8,p9⟩ := h
      have hdd : d' = k := qdr hP.un p1 b1 p3 h2 p4
      subst hdd
      rw [b1] at p1
      cases p1
      exact hw.1 _ ((hv.1 _).2 (.inr ⟨e,z,by omega,p6,p7,p8,p9⟩))
     | tail _ h ih => exact hw.2.1 _ ih _ h
    have := hy.2 (all _ hloop)
    rw [hy1] at this
    cases this
 unfold qbl
 refine Tot.bind (key P 0 rfl) fun v hv => ?_
 rcases v with v | v
 ·exact .ret fun h => by rw [hv] at h; cases h
 ·refine .ret fun _ n hn => ?_
  have : ∀ m,Relation.TransGen (Holds P) n m → ∃ (d : Nat) (x : Pt),P[d]? = some x ∧ x.kind = 1 ∧ x.def_ = true ∧ x.n = n := by
   intro m hm
   induction hm with
   | single h =>
    obtain ⟨d',e,x',z,p1,p2,p3,p4,_⟩ := h
    exact ⟨d',x',p1,p2,p3,p4⟩
   | tail _ _ ih => exact ih
  obtain ⟨d,x,h1,h2,h3,rfl⟩ := this n hn
  exact hv d x (Nat.zero_le _) h1 h2 h3 hn
end
end Go.Proofs.YtdhgdeelagmbpaaGreat
set_option linter.unusedSimpArgs false
set_option linter.unusedVariables false
namespace Go.Proofs.YtdhgdeelagmbpaaGreat
open Go Go.Gm
inductive jh (P : List Pt) : Int → Nat → Nat → Prop
 | nil (up : Int) (i : Nat) : jh P up i i
 | cons (up : Int) (i e hi : Nat) (x : Pt) (hx : P[i]? = some x) (hu : x.up = up) (he : x.end_ = (e : Int)) (hlt : i < e) (hle : e ≤ hi) (hk : jh P i (i + 1) e) (hd : x.def_ = false → e = i + 1) (ho : x.opts.l ≠ [] → e = i + 1) (hr : jh P up e hi) : jh P up i hi
theorem jh.le {P : List Pt} {up : Int} {i j : Nat} (h : jh P up i j) : i ≤ j := by
 cases h <;> omega
theorem xe.chain {up : Int} {b : Nat} {l : List Pt} (h : xe up b l) : ∀ (pre post : List Pt),pre.length = b → jh (pre ++ l ++ post) up b (b + l.length) := by
 induction h with
 | nil up b => intro pre post _; exact .nil _ _
 | cons up b x kids rest hu he hd ho hk _ ihk ihr =>
  intro pre post hpre
  have e1 : b + (x :: (kids ++ rest)).length = b + 1 + kids.length + rest.length := by simp; omega
  have h1 := ihk (pre ++ [x]) (rest ++ post) (by simp [hpre])
  have h2 := ihr (pre ++ [x] ++ kids) post (by simp [hpre]; omega)
  have e2 : pre ++ [x] ++ kids ++ (rest ++ post) = pre ++ x :: (kids ++ rest) ++ post := by simp
  have e3 : pre ++ [x] ++ kids ++ rest ++ post = pre ++ x :: (kids ++ rest) ++ post := by simp
  rw [e2] at h1
  rw [e3] at h2
  rw [e1]
  refine .cons up b (b + 1 + kids.length) _ x ?_ hu he (by omega) (by omega) h1 (fun h => ?_) (fun h => ?_) h2
  ·rw [List.append_assoc,List.getElem?_append_right (by omega)]
   simp [hpre]
  ·rw [hd h]; rfl
  ·rw [ho h]; rfl
theorem xe.inner {up : Int} {b : Nat} {l : List Pt} (h : xe up b l) : ∀ (pre post : List Pt),pre.length = b → ∀ (i : Nat) (x : Pt),l[i]? = some x → ∃ e : Nat,x.end_ = (e : Int) ∧ jh (pre ++ l ++ post) ((b + i : Nat) : Int) (b + i + 1) e ∧ (x.def_ = false → e = b + i + 1) ∧ (x.opts.l ≠ [] → e = b + i + 1) := by
 induction h with
 | nil up b => intro pre post _ i x h; simp at h
 | cons up b x kids rest hu he hd ho hk _ ihk ihr =>
  intro pre post hpre i y hy
  have e2 : pre ++ [x] ++ kids ++ (rest ++ post) = pre ++ x :: (kids ++ rest) ++ post := by simp
  have e3 : pre ++ [x] ++ kids ++ rest ++ post = pre ++ x :: (kids ++ rest) ++ post := by simp
  cases i with
  | zero =>
   simp only [List.getElem?_cons_zero,Option.some.injEq] at hy
   subst hy
   refine ⟨b + 1 + kids.length,he, ?_,fun h => ?_,fun h => ?_⟩
   ·have h1 := hk.chain (pre ++ [x]) (rest ++ post) (by simp [hpre])
    rw [e2] at h1
    exact h1
   ·rw [hd h]; rfl
   ·rw [ho h]; rfl
  | succ i =>
   simp only [List.getElem?_cons_succ] at hy
   by_cases hi : i < kids.length
   ·rw [List.getElem?_append_left hi] at hy
    obtain ⟨e,f1,f2,f3,f4⟩ := ihk (pre ++ [x]) (rest ++ post) (by simp [hpre]) i y hy
    rw [e2] at f2
    have e4 : b + 1 + i = b + (i + 1) := by omega
    rw [e4] at f2 f3 f4
    exact ⟨e,f1,f2,f3,f4⟩
   ·rw [List.getElem?_append_right (by omega)] at hy
    obtain ⟨e,f1,f2,f3,f4⟩ := ihr (pre ++ [x] ++ kids) post (by simp [hpre]; omega) (i - kids.length) y hy
    rw [e3] at f2
    have e4 : b + 1 + kids.length + (i - kids.length) = b + (i + 1) := by omega
    rw [e4] at f2 f3 f4
    exact ⟨e,f1,f2,f3,f4⟩
theorem Good.chain {P : List Pt} (hP : Good P) : jh P (-1) 0 P.length := by
 have := hP.seg.chain [] [] rfl
 simpa using this
theorem Good.inner {P : List Pt} (hP : Good P) {i : Nat} {x : Pt} (h : P[i]? = some x) : ∃ e : Nat,x.end_ = (e : Int) ∧ jh P (i : Int) (i + 1) e ∧ (x.def_ = false → e = i + 1) ∧ (x.opts.l ≠ [] → e = i + 1) := by
 have := hP.seg.inner [] [] rfl i x h
 simpa using this
def Look (ns : List Int) (ts : List Bytes) (n : Int) (t : Bytes) : Prop := ∃ k : Nat,ns[k]? = some n ∧ ts[k]? = some t ∧ ∀ j,j < k → ns[j]? ≠ some n
theorem Look.one {ns : List Int} {ts : List Bytes} {n : Int} {t u : Bytes} (h1 : Look ns ts n t) (h2 : Look ns ts n u) : t = u := by
 obtain ⟨k,a1,a2,a3⟩ := h1
 obtain ⟨j,b1,b2,b3⟩ := h2
 have : k = j := by
  rcases Nat.lt_trichotomy k j with h | h | h
  ·exact absurd a1 (b3 k h)
  ·exact h
  ·exact absurd b1 (a3 j h)
 subst this
 rw [a2] at b2
 exact Option.some.inj b2
theorem Look.app {ns : List Int} {ts : List Bytes} {n : Int} {t : Bytes} (h : Look ns ts n t) (a : List Int) (b : List Bytes) : Look (ns ++ a) (ts ++ b) n t := by
 obtain ⟨k,a1,a2,a3⟩ := h
 have k1 := (List.getElem?_eq_some_iff.1 a1).1
 have k2 := (List.getElem?_eq_some_iff.1 a2).1
 refine ⟨k,by rw [List.getElem?_append_left k1]; exact a1,by rw [List.getElem?_append_left k2]; exact a2,fun j hj => ?_⟩
 rw [List.getElem?_append_left (by omega)]
 exact a3 j hj
theorem Look.new {ns : List Int} {ts : List Bytes} (hl : ns.length = ts.length) {n : Int} (hn : n ∉ ns) (t : Bytes) : Look (ns ++ [n]) (ts ++ [t]) n t := by
 refine ⟨ns.length,by simp,by simp [hl],fun j hj => ?_⟩
 rw [List.getElem?_append_left hj]
 exact fun h => hn (List.mem_of_getElem? h)
theorem Look.cases {ns : List Int} {ts : List Bytes} (hl : ns.length = ts.length) {n m : Int} {t u : Bytes} (hn : n ∉ ns) (h : Look (ns ++ [n]) (ts ++ [t]) m u) : (m = n ∧ u = t) ∨ Look ns ts m u := by
 obtain ⟨k,a1,a2,a3⟩ := h
 by_cases hk : k < ns.length
 ·refine .inr ⟨k,by rw [List.getElem?_append_left hk] at a1; exact a1,by rw [List.getElem?_append_left (by omega)] at a2; exact a2,fun j hj => ?_⟩
  have := a3 j hj
  rw [List.getElem?_append_left (by omega)] at this
  exact this
 ·have k1 := (List.getElem?_eq_some_iff.1 a1).1
  simp only [List.length_append,List.length_cons,List.length_nil] at k1
  have : k = ns.length := by omega
  subst this
  refine .inl ⟨?_, ?_⟩
  ·simpa using a1.symm
  ·rw [hl] at a2; simpa using a2.symm
def Val (P : List Pt) (ns : List Int) (ts : List Bytes) (i : Nat) (t : Bytes) : Prop :=
 ∃ (x : Pt) (b : Bytes),P[i]? = some x ∧ (x.kind = 1 → Look ns ts x.n b) ∧ (x.kind ≠ 1 → b = x.text) ∧ (x.turned = false → t = b) ∧ (x.turned = true → ∃ l,q5o x.form b 20000 = some (t,l,0))
theorem Val.app {P : List Pt} {ns : List Int} {ts : List Bytes} {i : Nat} {t : Bytes} (h : Val P ns ts i t) (a : List Int) (b : List Bytes) : Val P (ns ++ a) (ts ++ b) i t := by
 obtain ⟨x,c,h1,h2,h3,h4,h5⟩ := h
 exact ⟨x,c,h1,fun k => (h2 k).app a b,h3,h4,h5⟩
theorem Val.one {P : List Pt} {ns : List Int} {ts : List Bytes} {i : Nat} {t u : Bytes} (h1 : Val P ns ts i t) (h2 : Val P ns ts i u) : t = u := by
 obtain ⟨x,b,a1,a2,a3,a4,a5⟩ := h1
 obtain ⟨y,c,b1,b2,b3,b4,b5⟩ := h2
 rw [a1] at b1
 cases b1
 have hbc : b = c := by
  by_cases k : x.kind = 1
  ·exact (a2 k).one (b2 k)
  ·rw [a3 k,b3 k]
 subst hbc
 cases ht : x.turned
 ·rw [a4 ht,b4 ht]
 ·obtain ⟨l1,c1⟩ := a5 ht
  obtain ⟨l2,c2⟩ := b5 ht
  rw [c1] at c2
  have := Option.some.inj c2
  exact (congrArg (·.1) this)
inductive yw (P : List Pt) (ns : List Int) (ts : List Bytes) : Nat → Nat → Bytes → Prop
 | nil (i : Nat) : yw P ns ts i i []
 | cons (i e hi : Nat) (x : Pt) (t u : Bytes) (hx : P[i]? = some x) (he : x.end_ = (e : Int)) (hv : Val P ns ts i t) (hr : yw P ns ts e hi u) : yw P ns ts i hi (t ++ u)
theorem yw.app {P : List Pt} {ns : List Int} {ts : List Bytes} {i j : Nat} {t : Bytes} (h : yw P ns ts i j t) (a : List Int) (b : List Bytes) : yw P (ns ++ a) (ts ++ b) i j t := by
 induction h with
 | nil i => exact .nil i
 | cons i e hi x t u hx he hv _ ih => exact .cons i e hi x t u hx he (hv.app a b) ih
def Txt (P : List Pt) (ns : List Int) (ts : List Bytes) (n : Int) (t : Bytes) : Prop :=
 (t = [] ∧ ∀ x ∈ P,x.kind = 1 → x.def_ = true → x.n ≠ n) ∨ ∃ (d e : Nat) (x : Pt),P[d]? = some x ∧ x.kind = 1 ∧ x.def_ = true ∧ x.n = n ∧ x.end_ = (e : Int) ∧ (x.opts.l ≠ [] ∨ yw P ns ts (d + 1) e t)
theorem Txt.app {P : List Pt} {ns : List Int} {ts : List Bytes} {n : Int} {t : Bytes} (h : Txt P ns ts n t) (a : List Int) (b : List Bytes) : Txt P (ns ++ a) (ts ++ b) n t := by
 rcases h with h | ⟨d,e,x,h1,h2,h3,h4,h5,h6⟩
 ·exact .inl h
 ·exact .inr ⟨d,e,x,h1,h2,h3,h4,h5,h6.imp id fun h => h.app a b⟩
structure wh (P : List Pt) (ns : List Int) (ts : List Bytes) : Prop where
 len : ns.length = ts.length
 nd : ns.Nodup
 sub : ∀ n ∈ ns,n ∈ P.map (·.n)
 txt : ∀ n t,Look ns ts n t → Txt P ns ts n t ∧ t.length ≤ 65536
theorem wh.room {P : List Pt} {ns : List Int} {ts : List Bytes} (h : wh P ns ts) : ns.length ≤ P.length := by
 simpa using qgu h.nd h.sub
theorem wh.more {P : List Pt} {ns : List Int} {ts : List Bytes} (h : wh P ns ts) {n : Int} (hn : n ∉ ns) (hs : n ∈ P.map (·.n)) {t : Bytes} (ht : Txt P ns ts n t) (hl : t.length ≤ 65536) : wh P (ns ++ [n]) (ts ++ [t]) where
 len := by simp [h.len]
 nd := by
  refine List.nodup_append.2 ⟨h.nd,by simp,fun a ha b hb => ?_⟩
  simp only [List.mem_singleton] at hb
  subst hb
  exact fun e => hn (e ▸ ha)
 sub := by
  intro m hm
  rcases List.mem_append.1 hm with hm | hm
  ·exact h.sub m hm
  ·simp only [List.mem_singleton] at hm; subst hm; exact hs
 txt := by
  intro m u hu
  rcases hu.cases h.len hn with ⟨rfl,rfl⟩ | hu
  ·exact ⟨ht.app _ _,hl⟩
  ·exact ⟨(h.txt m u hu).1.app _ _,(h.txt m u hu).2⟩
theorem qlx (n : Int) (ns : List Int) (ts : List Bytes) (hl : ns.length ≤ 1099511627776) (he : ns.length = ts.length) : Tot (qax n ns ts) (fun v => (v = -1 ∧ n ∉ ns) ∨ ∃ (k : Nat) (t : Bytes),v = k ∧ ts[k]? = some t ∧ k < ts.length ∧ Look ns ts n t) := by
 have key : ∀ (q : List Int) (k : Nat),ns.drop k = q → (∀ j,j < k → ns[j]? ≠ some n) → Tot (q52 (n,(k : Int),ns,ts)) (fun v => match v with | .inl v => ∃ (k : Nat) (t : Bytes),v = k ∧ ts[k]? = some t ∧ k < ts.length ∧ Look ns ts n t | .inr _ => n ∉ q) := by
  intro q
  induction q with
  | nil =>
   intro k hk hj
   rw [q52.eq_1,if_neg (by simpa using zw hk)]
   exact .ret (by simp)
  | cons c q ih =>
   intro k hk hj
   obtain ⟨a1,a2,a3,a4⟩ := zq hk
   obtain ⟨b1,_,b3⟩ := drop_cons hk
   rw [q52.eq_1,if_pos (by simpa using a1),wrS (by omega) a1]
   refine Tot.go a2 ?_
   (apply Tot.ite <;> intro hT <;> try simp (disch := omega) only [tfx.down,q9,qa] at hT)
   ·have hk2 : k < ts.length := by omega
    have ht : ts[k]? = some ts[k] := List.getElem?_eq_getElem hk2
    exact .ret ⟨k,ts[k],rfl,ht,hk2,k,by rw [b1,hT],ht,hj⟩
   ·have hne := hT
    refine (ih (k + 1) a3 fun j hj2 => ?_).mono fun v hv => ?_
    ·rcases Nat.lt_succ_iff_lt_or_eq.1 hj2 with h | rfl
     ·exact hj j h
     ·rw [b1]; simpa using hne
    ·rcases v with v | v
     ·exact hv
     ·intro h
      rcases List.mem_cons.1 h with h | h
      ·exact hne h.symm
      ·exact hv h
 unfold qax
 refine Tot.bind (key ns 0 rfl (by omega)) fun v hv => ?_
 rcases v with v | v
 ·exact .ret (.inr hv)
 ·exact .ret (.inl ⟨rfl,hv⟩)
noncomputable def mu (P : List Pt) (n : Int) : Nat := by
 classical exact ((P.map (·.n)).filter (fun m => decide (Relation.TransGen (Holds P) n m))).length
theorem filter_le {p q : Int → Bool} (h : ∀ x,p x = true → q x = true) : ∀ l : List Int,(l.filter p).length ≤ (l.filter q).length
 | [] => by simp
 | b :: l => by
  have ih := filter_le h l
  cases hp : p b
  ·cases hq : q b
   ·simpa [hp,hq] using ih
   ·simp [hp,hq]; omega
  ·have hq := h b hp
   simpa [hp,hq] using ih
theorem filter_lt {p q : Int → Bool} : ∀ (l : List Int),(∀ x,p x = true → q x = true) → (∃ x ∈ l,q x = true ∧ p x = false) → (l.filter p).length < (l.filter q).length
 | [],_,h => by obtain ⟨x,hx,_⟩ := h; cases hx
 | a :: l,h,⟨x,hx,h1,h2⟩ => by
  have hl := filter_le h l
  rcases List.mem_cons.1 hx with rfl | hx
  ·simp [h1,h2]; omega
  ·have ih := filter_lt l h ⟨x,hx,h1,h2⟩
   cases hp : p a
   ·cases hq : q a
    ·simpa [hp,hq] using ih
    ·simp [hp,hq]; omega
   ·have hq := h a hp
    simpa [hp,hq] using ih
theorem z0y {P : List Pt} (hN : qdl P) {n m : Int} (h : Holds P n m) : mu P m < mu P n := by
 classical
 unfold mu
 refine filter_lt _ (fun x hx => ?_) ⟨m, ?_, ?_, ?_⟩
 ·simp only [decide_eq_true_eq] at hx ⊢
  exact Relation.TransGen.trans (.single h) hx
 ·obtain ⟨d,e,x,y,_,_,_,_,_,_,h7,_,h9⟩ := h
  exact List.mem_map.2 ⟨y,List.mem_of_getElem? h7,h9⟩
 ·simpa using Relation.TransGen.single h
 ·simpa using hN m
end Go.Proofs.YtdhgdeelagmbpaaGreat
set_option linter.unusedSimpArgs false
set_option linter.unusedVariables false
namespace Go.Proofs.YtdhgdeelagmbpaaGreat
open Go Go.Gm
theorem qs1 {A B C D E F G H I J : Type} {o : Option (A × B × C × D × E × F × G × H × I × J)} {Q : A × B × C × D × E × F × G × H × I × J → Prop} (h : Tot o Q) :
  Tot (o >>= fun v => some (v.1,v.2.1,v.2.2.1,v.2.2.2.1,v.2.2.2.2.1,v.2.2.2.2.2.1,v.2.2.2.2.2.2.1,v.2.2.2.2.2.2.2.1,v.2.2.2.2.2.2.2.2.1,v.2.2.2.2.2.2.2.2.2)) Q := Tot.bind h fun v hv => .ret hv
section
variable {env : Sl T.qi} {lead unit : Bytes} {P : List Pt} {ds : List Int} {nm : List Bytes}
def OfQ (env : Sl T.qi) (lead unit : Bytes) (P : List Pt) (ds : List Int) (nm : List Bytes) (i : Nat) (x : Pt) (ns : List Int) (ts : List Bytes) (v : Bytes × Int × Sl T.qi × Bytes × Bytes × List Pt × List Int × List Bytes × List Int × List Bytes) : Prop :=
 v.1.length ≤ 17592186044416 ∧ (v.2.1 = 0 → ∃ a b,v.2.2 = (env,lead,unit,P,ds,nm,ns ++ a,ts ++ b) ∧ wh P (ns ++ a) (ts ++ b) ∧ (∀ m ∈ a,x.kind = 1 ∧ (m = x.n ∨ Relation.TransGen (Holds P) x.n m)) ∧ Val P (ns ++ a) (ts ++ b) i v.1)
def ql3 (env : Sl T.qi) (lead unit : Bytes) (P : List Pt) (ds : List Int) (nm : List Bytes) (n : Int) (ns : List Int) (ts : List Bytes) (v : Bytes × Int × Sl T.qi × Bytes × Bytes × List Pt × List Int × List Bytes × List Int × List Bytes) : Prop :=
 v.2.1 = 0 → ∃ a b,v.2.2 = (env,lead,unit,P,ds,nm,ns ++ a,ts ++ b) ∧ wh P (ns ++ a) (ts ++ b) ∧ (∀ m ∈ a,Relation.TransGen (Holds P) n m) ∧ Txt P (ns ++ a) (ts ++ b) n v.1 ∧ v.1.length ≤ 65536
theorem qoj (hP : Good P) (hN : qdl P) (i : Nat) (x : Pt) (hx : P[i]? = some x) (ns : List Int) (ts : List Bytes) (hM : wh P ns ts)
  (htxt : x.kind = 1 → Tot (q93 (x.n,env,lead,unit,P,ds,nm,ns,ts)) (ql3 env lead unit P ds nm x.n ns ts)) :
  Tot (q04 ((i : Int),env,lead,unit,P,ds,nm,ns,ts)) (OfQ env lead unit P ds nm i x ns ts) := by
 have hl := hP.len
 have hil := (List.getElem?_eq_some_iff.1 hx).1
 have hxm := List.mem_of_getElem? hx
 have hg := hP.ok x hxm
 have hroom := hM.room
 have hlen := hM.len
 rw [q04.eq_1]
 refine Tot.go (a := x) (by rw [xw hil]; simpa [List.getElem?_eq_getElem hil] using hx) ?_
 (apply Tot.ite <;> intro hT <;> try simp (disch := omega) only [tfx.down,q9,qa] at hT)
 ·have k1 := hT
  refine Tot.bind (qlx x.n ns ts (by omega) hlen) fun v hv => ?_
  (apply Tot.ite <;> intro hT <;> try simp (disch := omega) only [tfx.down,q9,qa] at hT)
  ·have hv0 := hT
   have hn : x.n ∉ ns := by
    rcases hv with ⟨_,h⟩ | ⟨k,t,rfl,_⟩
    ·exact h
    ·omega
   refine Tot.bind (htxt k1) fun w hw => ?_
   (apply Tot.ite <;> intro hT <;> try simp (disch := omega) only [tfx.down,q9,qa] at hT)
   ·exact .ret ⟨by simp,fun h => absurd h hT⟩
   have hw0 := hT
   obtain ⟨a,b,e,m1,m2,m3,m4⟩ := hw hw0
   obtain ⟨w1,w2,w3⟩ := w
   simp only at e m3 m4 hw0
   subst e
   have hna : x.n ∉ ns ++ a := by
    intro h
    rcases List.mem_append.1 h with h | h
    ·exact hn h
    ·exact hN _ (m2 _ h)
   have hM2 := m1.more hna (List.mem_map.2 ⟨x,hxm,rfl⟩) m3 m4
   have r2 := m1.room
   have l2 := m1.len
   simp only
   refine Tot.need (by simp only [ql,Bool.and_eq_true,decide_eq_true_eq]; omega) ?_
   refine Tot.need (by simp only [ql,Bool.and_eq_true,decide_eq_true_eq]; omega) ?_
   have e1 : IntKind.i64.wrap (((ts ++ b ++ [w1]).length : Int) - 1) = ((ts ++ b).length : Int) := by
    simp only [List.length_append,List.length_cons,List.length_nil] at r2 l2 ⊢
    rw [wr (by omega) (by omega)]; omega
   rw [e1]
   refine Tot.go (qam (ts ++ b) [] w1) ?_
   have hLook := Look.new l2 hna w1
   have hadd : ∀ m ∈ a ++ [x.n],x.kind = 1 ∧ (m = x.n ∨ Relation.TransGen (Holds P) x.n m) := by
    intro m hm
    rcases List.mem_append.1 hm with hm | hm
    ·exact ⟨k1,.inr (m2 m hm)⟩
    ·simp only [List.mem_singleton] at hm; exact ⟨k1,.inl hm⟩
   (apply Tot.ite <;> intro hT <;> try simp (disch := omega) only [tfx.down,q9,qa] at hT)
   ·have ht := hT
    obtain ⟨r,hr,hq⟩ := qf5 x.form hg.form w1 (by omega) 20000
    refine Tot.go hr ?_
    refine .ret ⟨?_,fun h0 => ⟨a ++ [x.n],b ++ [w1],by simp,by simpa using hM2,hadd,x,w1,hx,fun _ => by simpa using hLook,fun h => absurd k1 h,fun h => (by rw [ht] at h; cases h),fun _ => ⟨r.2.1, ?_⟩⟩⟩
    ·rcases hq with hq | hq
     ·simp only; omega
     ·simp only [hq]; omega
    ·rw [hr]
     simp only at h0 ⊢
     rw [← h0]
   ·have ht := hT
    exact .ret ⟨by simp only; omega,fun h0 => ⟨a ++ [x.n],b ++ [w1],by simp,by simpa using hM2,hadd,x,w1,hx,fun _ => by simpa using hLook,fun h => absurd k1 h,fun _ => rfl,fun h => (by rw [ht] at h; cases h)⟩⟩
  ·have hv0 := hT
   rcases hv with ⟨rfl,_⟩ | ⟨k,t,rfl,hk,hkl,hL⟩
   ·omega
   have ht65 := (hM.txt _ _ hL).2
   refine Tot.go (a := t) (by rw [xw hkl]; simpa [List.getElem?_eq_getElem hkl] using hk) ?_
   (apply Tot.ite <;> intro hT <;> try simp (disch := omega) only [tfx.down,q9,qa] at hT)
   ·have ht := hT
    obtain ⟨r,hr,hq⟩ := qf5 x.form hg.form t (by omega) 20000
    refine Tot.go hr ?_
    refine .ret ⟨?_,fun h0 => ⟨[],[],by simp,by simpa using hM,by simp,x,t,hx,fun _ => by simpa using hL,fun h => absurd k1 h,fun h => (by rw [ht] at h; cases h),fun _ => ⟨r.2.1, ?_⟩⟩⟩
    ·rcases hq with hq | hq
     ·simp only; omega
     ·simp only [hq]; omega
    ·rw [hr]
     simp only at h0 ⊢
     rw [← h0]
   ·have ht := hT
    exact .ret ⟨by simp only; omega,fun h0 => ⟨[],[],by simp,by simpa using hM,by simp,x,t,hx,fun _ => by simpa using hL,fun h => absurd k1 h,fun _ => rfl,fun h => (by rw [ht] at h; cases h)⟩⟩
 ·have k1 := hT
  (apply Tot.ite <;> intro hT <;> try simp (disch := omega) only [tfx.down,q9,qa] at hT)
  ·have ht := hT
   have htt := hg.tt ht
   obtain ⟨r,hr,hq⟩ := qf5 x.form hg.form x.text htt 20000
   refine Tot.go hr ?_
   refine .ret ⟨?_,fun h0 => ⟨[],[],by simp,by simpa using hM,by simp,x,x.text,hx,fun h => absurd h k1,fun _ => rfl,fun h => (by rw [ht] at h; cases h),fun _ => ⟨r.2.1, ?_⟩⟩⟩
   ·rcases hq with hq | hq
    ·simp only; omega
    ·simp only [hq]; omega
   ·rw [hr]
    simp only at h0 ⊢
    rw [← h0]
  ·have ht := hT
   exact .ret ⟨hg.tl,fun h0 => ⟨[],[],by simp,by simpa using hM,by simp,x,x.text,hx,fun h => absurd h k1,fun _ => rfl,fun _ => rfl,fun h => (by rw [ht] at h; cases h)⟩⟩
abbrev qz7 := (Bytes × Int × Bytes × Sl T.qi × Bytes × Bytes × List Pt × List Int × List Bytes × List Int × List Bytes) ⊕ (Bytes × Sl T.qi × Bytes × Bytes × List Pt × List Int × List Bytes × List Int × List Bytes)
def qeb (env : Sl T.qi) (lead unit : Bytes) (P : List Pt) (ds : List Int) (nm : List Bytes) (i hi : Nat) (s : Bytes) (ns : List Int) (ts : List Bytes) : qz7 → Prop
 | .inl y => y.2.1 ≠ 0
 | .inr y => ∃ a b t,y = (s ++ t,env,lead,unit,P,ds,nm,ns ++ a,ts ++ b) ∧ wh P (ns ++ a) (ts ++ b) ∧ (∀ m ∈ a,∃ (j : Nat) (x : Pt),i ≤ j ∧ j < hi ∧ P[j]? = some x ∧ x.kind = 1 ∧ (m = x.n ∨ Relation.TransGen (Holds P) x.n m)) ∧ yw P (ns ++ a) (ts ++ b) i hi t ∧ (s ++ t).length ≤ 65536
theorem zk6 (hP : Good P) {up : Int} {i hi : Nat} (hc : jh P up i hi) : ∀ (s : Bytes) (ns : List Int) (ts : List Bytes),s.length ≤ 65536 → wh P ns ts →
  (∀ (j : Nat) (x : Pt) (ns : List Int) (ts : List Bytes),i ≤ j → j < hi → P[j]? = some x → wh P ns ts → Tot (q04 ((j : Int),env,lead,unit,P,ds,nm,ns,ts)) (OfQ env lead unit P ds nm j x ns ts)) →
  Tot (q5v ((hi : Int),s,(i : Int),env,lead,unit,P,ds,nm,ns,ts)) (qeb env lead unit P ds nm i hi s ns ts) := by
 induction hc with
 | nil up i =>
  intro s ns ts hs hM hof
  rw [q5v.eq_1,if_neg (by simp)]
  exact .ret ⟨[],[],[],by simp,by simpa using hM,by simp,.nil _,by simpa using hs⟩
 | cons up i e hi x hx hu he hlt hle hk hd ho hr _ ihr =>
  intro s ns ts hs hM hof
  have hil := (List.getElem?_eq_some_iff.1 hx).1
  rw [q5v.eq_1,if_pos (by simp; omega)]
  refine Tot.bind (hof i x ns ts (Nat.le_refl _) (by omega) hx hM) fun v hv => ?_
  (apply Tot.ite <;> intro hT <;> try simp (disch := omega) only [tfx.down,q9,qa] at hT)
  ·exact .ret hT
  have hv0 := hT
  obtain ⟨a,b,e1,m1,m2,m3⟩ := hv.2 hv0
  obtain ⟨v1,v2,v3⟩ := v
  have hvl := hv.1
  simp only at e1 m3 hv0 hvl
  subst e1
  simp only
  refine Tot.need (by omega) ?_
  (apply Tot.ite <;> intro hT <;> try simp (disch := omega) only [tfx.down,q9,qa] at hT)
  ·exact .ret (by simp [qeb])
  have hlen := hT
  refine Tot.go (a := x) (by rw [xw hil]; simpa [List.getElem?_eq_getElem hil] using hx) ?_
  rw [he]
  refine (ihr (s ++ v1) (ns ++ a) (ts ++ b) (by omega) m1 (fun j y ns ts h1 h2 => hof j y ns ts (by omega) h2)).mono fun w hw => ?_
  rcases w with w | w
  ·exact hw
  ·obtain ⟨a2,b2,t,w1,w2,w3,w4,w5⟩ := hw
   refine ⟨a ++ a2,b ++ b2,v1 ++ t, ?_, ?_, ?_, ?_, ?_⟩
   ·rw [w1]; simp
   ·simpa using w2
   ·intro m hm
    rcases List.mem_append.1 hm with hm | hm
    ·exact ⟨i,x,Nat.le_refl _,by omega,hx,m2 m hm⟩
    ·obtain ⟨j,y,j1,j2,j3⟩ := w3 m hm
     exact ⟨j,y,by omega,j2,j3⟩
   ·have := yw.cons i e hi x v1 t hx he (m3.app a2 b2) w4
    simpa using this
   ·simpa using w5
theorem zmw (hP : Good P) {up : Int} {i hi : Nat} (hc : jh P up i hi) : ∀ (s : Bytes) (ns : List Int) (ts : List Bytes),s.length ≤ 65536 → wh P ns ts →
  (∀ (j : Nat) (x : Pt) (ns : List Int) (ts : List Bytes),i ≤ j → j < hi → P[j]? = some x → wh P ns ts → Tot (q04 ((j : Int),env,lead,unit,P,ds,nm,ns,ts)) (OfQ env lead unit P ds nm j x ns ts)) →
  Tot (q4t ((hi : Int),s,(i : Int),env,lead,unit,P,ds,nm,ns,ts)) (qeb env lead unit P ds nm i hi s ns ts) := by
 induction hc with
 | nil up i =>
  intro s ns ts hs hM hof
  rw [q4t.eq_1,if_neg (by simp)]
  exact .ret ⟨[],[],[],by simp,by simpa using hM,by simp,.nil _,by simpa using hs⟩
 | cons up i e hi x hx hu he hlt hle hk hd ho hr _ ihr =>
  intro s ns ts hs hM hof
  have hil := (List.getElem?_eq_some_iff.1 hx).1
  rw [q4t.eq_1,if_pos (by simp; omega)]
  refine Tot.bind (hof i x ns ts (Nat.le_refl _) (by omega) hx hM) fun v hv => ?_
  (apply Tot.ite <;> intro hT <;> try simp (disch := omega) only [tfx.down,q9,qa] at hT)
  ·exact .ret hT
  have hv0 := hT
  obtain ⟨a,b,e1,m1,m2,m3⟩ := hv.2 hv0
  obtain ⟨v1,v2,v3⟩ := v
  have hvl := hv.1
  simp only at e1 m3 hv0 hvl
  subst e1
  simp only
  refine Tot.need (by omega) ?_
  (apply Tot.ite <;> intro hT <;> try simp (disch := omega) only [tfx.down,q9,qa] at hT)
  ·exact .ret (by simp [qeb])
  have hlen := hT
  refine Tot.go (a := x) (by rw [xw hil]; simpa [List.getElem?_eq_getElem hil] using hx) ?_
  rw [he]
  refine (ihr (s ++ v1) (ns ++ a) (ts ++ b) (by omega) m1 (fun j y ns ts h1 h2 => hof j y ns ts (by omega) h2)).mono fun w hw => ?_
  rcases w with w | w
  ·exact hw
  ·obtain ⟨a2,b2,t,w1,w2,w3,w4,w5⟩ := hw
   refine ⟨a ++ a2,b ++ b2,v1 ++ t, ?_, ?_, ?_, ?_, ?_⟩
   ·rw [w1]; simp
   ·simpa using w2
   ·intro m hm
    rcases List.mem_append.1 hm with hm | hm
    ·exact ⟨i,x,Nat.le_refl _,by omega,hx,m2 m hm⟩
    ·obtain ⟨j,y,j1,j2,j3⟩ := w3 m hm
     exact ⟨j,y,by omega,j2,j3⟩
   ·have := yw.cons i e hi x v1 t hx he (m3.app a2 b2) w4
    simpa using this
   ·simpa using w5
theorem qtd (hP : Good P) (hN : qdl P) : ∀ (M : Nat) (n : Int),mu P n = M → ∀ (ns : List Int) (ts : List Bytes),wh P ns ts → Tot (q93 (n,env,lead,unit,P,ds,nm,ns,ts)) (ql3 env lead unit P ds nm n ns ts) := by
 have hl := hP.len
 intro M
 induction M using Nat.strongRecOn with
 | _ M ih =>
 intro n hn ns ts hM
 rw [q93.eq_1]
 refine Tot.bind (qfn n P ds nm hl) fun v hv => ?_
 (apply Tot.ite <;> intro hT <;> try simp (disch := omega) only [tfx.down,q9,qa] at hT)
 ·have hv0 := hT
  rcases hv with ⟨_,h⟩ | ⟨d,x,rfl,_⟩
  ·exact .ret fun _ => ⟨[],[],by simp,by simpa using hM,by simp,.inl ⟨rfl,h⟩,by simp⟩
  ·omega
 have hv0 := hT
 rcases hv with ⟨rfl,_⟩ | ⟨d,x,rfl,hd,x1,x2,x3⟩
 ·omega
 have hdl := (List.getElem?_eq_some_iff.1 hd).1
 obtain ⟨e,he,hc,_,_⟩ := hP.inner hd
 refine Tot.go (a := x) (by rw [xw hdl]; simpa [List.getElem?_eq_getElem hdl] using hd) ?_
 (apply Tot.ite <;> intro hT <;> try simp (disch := omega) only [tfx.down,q9,qa] at hT)
 ·have hol := hT
  refine Tot.bind (Tot.get (by omega) (by omega)) fun o _ => ?_
  (apply Tot.ite <;> intro hT <;> try simp (disch := omega) only [tfx.down,q9,qa] at hT)
  ·exact .ret fun h => by simp at h
  ·have hlen := hT
   refine .ret fun _ => ⟨[],[],by simp,by simpa using hM,by simp,.inr ⟨d,e,x,hd,x1,x2,x3,he,.inl ?_⟩,by simp only; omega⟩
   intro h
   rw [h] at hol
   simp at hol
 ·have hol := hT
  have hee := hP.end_ hd
  rw [wr (n := (d : Int) + 1) (by omega) (by omega),show ((d : Int) + 1) = ((d + 1 : Nat) : Int) by omega,he]
  have hin : ∀ (j : Nat) (y : Pt),d + 1 ≤ j → j < e → P[j]? = some y → y.kind = 1 → Holds P n y.n := fun j y h1 h2 h3 h4 => ⟨d,j,x,y,hd,x1,x2,x3,by omega,by omega,h3,h4,rfl⟩
  have hrow := zk6 (env := env) (lead := lead) (unit := unit) (ds := ds) (nm := nm) hP hc [] ns ts (by simp) hM (fun j y ns ts h1 h2 h3 h4 =>
   qoj hP hN j y h3 ns ts h4 fun hk => ih (mu P y.n) (by rw [← hn]; exact z0y hN (hin j y h1 h2 h3 hk)) y.n rfl ns ts h4)
  refine qs1 (o := qbv (((d + 1 : Nat) : Int),(e : Int),env,lead,unit,P,ds,nm,ns,ts)) ?_
  rw [qbv.eq_1]
  refine Tot.bind hrow fun w hw => ?_
  rcases w with w | w
  ·exact .ret fun h => absurd h hw
  ·obtain ⟨a,b,t,rfl,w2,w3,w4,w5⟩ := hw
   refine .ret fun _ => ⟨a,b,rfl,w2,fun m hm => ?_,.inr ⟨d,e,x,hd,x1,x2,x3,he,.inr (by simpa using w4)⟩,by simpa using w5⟩
   obtain ⟨j,y,j1,j2,j3,j4,j5⟩ := w3 m hm
   have h := hin j y j1 j2 j3 j4
   rcases j5 with rfl | j5
   ·exact .single h
   ·exact Relation.TransGen.trans (.single h) j5
end
end Go.Proofs.YtdhgdeelagmbpaaGreat
set_option linter.unusedSimpArgs false
set_option linter.unusedVariables false
namespace Go.Proofs.YtdhgdeelagmbpaaGreat
open Go Go.Gm
inductive Lay (H : Int → Int → Prop) : Int → Int → Int → Nat → List T.Stop → Prop
 | nil (up lo hi : Int) (b : Nat) (h : lo ≤ hi) : Lay H up lo hi b []
 | cons (up lo hi : Int) (b : Nat) (x : T.Stop) (kids rest : List T.Stop) (hu : x.up = up) (h1 : lo ≤ x.span.frm) (h2 : x.span.frm ≤ x.span.to) (hH : ∀ y ∈ kids,H x.n y.n)
   (hk : Lay H (b : Int) x.span.frm x.span.to (b + 1) kids) (hr : Lay H up x.span.to hi (b + 1 + kids.length) rest) : Lay H up lo hi b (x :: (kids ++ rest))
theorem Lay.le {H : Int → Int → Prop} {up lo hi : Int} {b : Nat} {l : List T.Stop} (h : Lay H up lo hi b l) : lo ≤ hi := by
 induction h with
 | nil _ _ _ _ h => exact h
 | cons _ _ _ _ _ _ _ _ h1 h2 _ _ _ _ ih => omega
theorem Lay.mono {H : Int → Int → Prop} {up lo hi : Int} {b : Nat} {l : List T.Stop} (h : Lay H up lo hi b l) {hi' : Int} (hh : hi ≤ hi') : Lay H up lo hi' b l := by
 induction h with
 | nil up lo hi b h => exact .nil _ _ _ _ (by omega)
 | cons up lo hi b x kids rest hu h1 h2 hH hk _ _ ih => exact .cons up lo hi' b x kids rest hu h1 h2 hH hk (ih hh)
theorem Lay.low {H : Int → Int → Prop} {up lo hi : Int} {b : Nat} {l : List T.Stop} (h : Lay H up lo hi b l) {lo' : Int} (hh : lo' ≤ lo) : Lay H up lo' hi b l := by
 cases h with
 | nil up lo hi b h => exact .nil _ _ _ _ (by omega)
 | cons up lo hi b x kids rest hu h1 h2 hH hk hr => exact .cons up lo' hi b x kids rest hu (by omega) h2 hH hk hr
theorem Lay.snoc {H : Int → Int → Prop} {up lo hi : Int} {b : Nat} {l : List T.Stop} (h : Lay H up lo hi b l) (x : T.Stop) (hu : x.up = up) (h1 : x.span.frm = hi) (h2 : x.span.to = hi) : Lay H up lo hi b (l ++ [x]) := by
 induction h with
 | nil up lo hi b h => exact .cons up lo hi b x [] [] hu (by omega) (by omega) (by simp) (.nil _ _ _ _ (by omega)) (.nil _ _ _ _ (by omega))
 | cons up lo hi b y kids rest hu' h1' h2' hH hk _ _ ih =>
  have := Lay.cons up lo hi b y kids (rest ++ [x]) hu' h1' h2' hH hk (ih hu h1 h2)
  simpa using this
def cnt (P : List Pt) (j : Nat) : Nat := (P.take j).countP (fun x => x.kind == 1)
theorem qao {P : List Pt} {i : Nat} {x : Pt} (h : P[i]? = some x) : cnt P (i + 1) = cnt P i + if x.kind = 1 then 1 else 0 := by
 obtain ⟨hl,rfl⟩ := List.getElem?_eq_some_iff.1 h
 unfold cnt
 rw [List.take_succ_eq_append_getElem hl,List.countP_append]
 by_cases hk : P[i].kind = 1 <;> simp [hk]
section
variable {env : Sl T.qi} {lead unit : Bytes} {P : List Pt} {ds : List Int} {nm : List Bytes} {ns : List Int} {ts : List Bytes}
theorem qnf (hP : Good P) (hM : wh P ns ts) (i : Nat) (t : Bytes) (hv : Val P ns ts i t) : q04 ((i : Int),env,lead,unit,P,ds,nm,ns,ts) = some (t,0,env,lead,unit,P,ds,nm,ns,ts) := by
 have hl := hP.len
 have hroom := hM.room
 have hlen := hM.len
 obtain ⟨x,b,hx,h1,h2,h3,h4⟩ := hv
 have hil := (List.getElem?_eq_some_iff.1 hx).1
 have hgx : qh P (i : Int) = some x := by rw [xw hil]; simpa [List.getElem?_eq_getElem hil] using hx
 rw [q04.eq_1,hgx]
 simp only [Option.bind_eq_bind,Option.bind_some]
 by_cases k1 : x.kind = 1
 ·have hL := h1 k1
  obtain ⟨v,hv1,hv2⟩ := qlx x.n ns ts (by omega) hlen
  rcases hv2 with ⟨_,hn⟩ | ⟨k,t',rfl,hk,hkl,hL'⟩
  ·obtain ⟨k,a1,_⟩ := hL
   exact absurd (List.mem_of_getElem? a1) hn
  ·have := hL.one hL'
   subst this
   have hgt : qh ts (k : Int) = some b := by rw [xw hkl]; simpa [List.getElem?_eq_getElem hkl] using hk
   rw [if_pos (by simp [k1]),hv1]
   simp only [Option.bind_some]
   rw [if_neg (by simp),hgt]
   simp only [Option.bind_some]
   cases ht : x.turned
   ·rw [if_neg (by simp),h3 ht]
   ·obtain ⟨l,hl⟩ := h4 ht
    rw [if_pos rfl,hl]
    rfl
 ·have hb := h2 k1
  subst hb
  rw [if_neg (by simp [k1])]
  cases ht : x.turned
  ·rw [if_neg (by simp),h3 ht]
  ·obtain ⟨l,hl⟩ := h4 ht
   rw [if_pos rfl,hl]
   rfl
theorem qls (hP : Good P) (hM : wh P ns ts) {i : Nat} {x : Pt} {t : Bytes} (hx : P[i]? = some x) (hk : x.kind = 1) (hd : x.def_ = true) (hv : Val P ns ts i t) {e : Nat} (he : x.end_ = (e : Int)) (ho : x.opts.l ≠ [] → e = i + 1) : ∃ u,yw P ns ts (i + 1) e u ∧ u.length ≤ t.length := by
 obtain ⟨y,b,h0,h1,_,h3,_⟩ := hv
 rw [hx] at h0
 cases h0
 have ht := h3 ((hP.ok x (List.mem_of_getElem? hx)).dt hd)
 subst ht
 rcases (hM.txt _ _ (h1 hk)).1 with ⟨_,h⟩ | ⟨d,e',y,a1,a2,a3,a4,a5,a6⟩
 ·exact absurd rfl (h x (List.mem_of_getElem? hx) hk hd)
 ·have : d = i := qdr hP.un a1 hx a3 hd a4
  subst this
  rw [hx] at a1
  cases a1
  have : e' = e := by omega
  subst this
  rcases a6 with a6 | a6
  ·rw [ho a6]
   exact ⟨[],.nil _,Nat.zero_le _⟩
  ·exact ⟨_,a6,Nat.le_refl _⟩
structure StQ (P : List Pt) (at_ : Int) (i hi : Nat) (W : Bytes) (out : List T.Stop) (place : List Int) (upI : Int) (l : List T.Stop) (pl : List Int) : Prop where
 plen : pl.length = place.length
 keep : ∀ j,j < i → pl[j]? = place[j]?
 lay : Lay (Holds P) upI at_ (at_ + W.length) out.length l
 mem : ∀ y ∈ l,∃ (j : Nat) (p : Pt),i ≤ j ∧ j < hi ∧ P[j]? = some p ∧ p.kind = 1 ∧ p.n = y.n
 len : l.length + cnt P i ≤ cnt P hi
theorem qua (hP : Good P) (hM : wh P ns ts) {up : Int} {i hi : Nat} (hc : jh P up i hi) : ∀ (at_ : Int) (W : Bytes) (out : List T.Stop) (place : List Int) (upI : Int),yw P ns ts i hi W → 0 ≤ at_ → at_ + W.length ≤ 65536 → hi ≤ P.length → place.length = P.length → out.length + hi ≤ P.length + i →
  ((up = -1 ∧ upI = -1) ∨ ∃ u : Nat,up = u ∧ u < i ∧ place[u]? = some upI) →
  Tot (gz ((hi : Int),at_,(i : Int),env,lead,unit,out,place,P,ds,nm,ns,ts)) (fun v => ∃ l pl,v = (at_ + W.length,env,lead,unit,out ++ l,pl,P,ds,nm,ns,ts) ∧ StQ P at_ i hi W out place upI l pl) := by
 have hPl := hP.len
 induction hc with
 | nil up i =>
  intro at_ W out place upI hR h0 h1 hhi hpl hol hup
  have hT0 : W = [] := by
   cases hR with
   | nil => rfl
   | cons _ e _ x t u hx he _ hr =>
    have h3 := (hP.end_ hx).1
    have h4 : ∀ {a b : Nat} {t : Bytes},yw P ns ts a b t → a ≤ b := by
     intro a b t h
     induction h with
     | nil => omega
     | cons a e b x t u hx he _ _ ih => have := (hP.end_ hx).1; omega
    have := h4 hr
    omega
  subst hT0
  rw [gz.eq_1,if_neg (by simp)]
  exact .ret ⟨[],place,by simp,rfl,fun _ _ => rfl,.nil _ _ _ _ (by simp),by simp,by simp⟩
 | cons up i e hi x hx hu he hlt hle hk hd ho hr ihk ihr =>
  intro at_ W out place upI hR h0 h1 hhi hpl hol hup
  have hil := (List.getElem?_eq_some_iff.1 hx).1
  have hgx : qh P (i : Int) = some x := by rw [xw hil]; simpa [List.getElem?_eq_getElem hil] using hx
  obtain ⟨t,u,hTu,hv,hru⟩ : ∃ t u,W = t ++ u ∧ Val P ns ts i t ∧ yw P ns ts e hi u := by
   cases hR with
   | nil => omega
   | cons _ e' _ y t u hy hye hv hr2 =>
    rw [hx] at hy
    cases hy
    have : e' = e := by omega
    subst this
    exact ⟨t,u,rfl,hv,hr2⟩
  subst hTu
  simp only [List.length_append] at h1
  have hcs := qao hx
  have hchi : cnt P (i + 1) ≤ cnt P e := by
   unfold cnt
   exact List.Sublist.countP_le (List.take_sublist_take_left (by omega))
  rw [gz.eq_1,if_pos (by simp; omega)]
  refine Tot.go hgx ?_
  refine Tot.go (qnf hP hM i t hv) ?_
  simp only
  have ew : IntKind.i64.wrap (at_ + (t.length : Int)) = at_ + t.length := wr (by omega) (by omega)
  rw [ew]
  have behind : ∀ (l : List T.Stop) (pl : List Int),StQ P at_ i e t out place upI l pl → l.length ≤ e - i →
    Tot (qh P (i : Int) >>= fun y => gz ((hi : Int),at_ + t.length,y.end_,env,lead,unit,out ++ l,pl,P,ds,nm,ns,ts)) (fun v => ∃ l pl,v = (at_ + (t ++ u).length,env,lead,unit,out ++ l,pl,P,ds,nm,ns,ts) ∧ StQ P at_ i hi (t ++ u) out place upI l pl) := by
   intro l pl h hll
   refine Tot.go hgx ?_
   rw [he]
   refine (ihr (at_ + t.length) u (out ++ l) pl upI hru (by omega) (by omega) hhi (h.plen.trans hpl) (by simp; omega) ?_).mono fun v hv => ?_
   ·rcases hup with hup | ⟨w,w1,w2,w3⟩
    ·exact .inl hup
    ·exact .inr ⟨w,w1,by omega,by rw [h.keep w w2]; exact w3⟩
   ·obtain ⟨l2,pl2,rfl,q⟩ := hv
    refine ⟨l ++ l2,pl2,by simp [Int.add_assoc],q.plen.trans h.plen,fun j hj => (q.keep j (by omega)).trans (h.keep j hj), ?_, ?_, ?_⟩
    ·have h2 := q.lay
     have h1 := h.lay
     have app : ∀ {up lo hi : Int} {b : Nat} {l : List T.Stop},Lay (Holds P) up lo hi b l → ∀ {hi2 : Int} {r : List T.Stop},Lay (Holds P) up hi hi2 (b + l.length) r → Lay (Holds P) up lo hi2 b (l ++ r) := by
      intro up lo hi b l hl
      induction hl with
      | nil up lo hi b h => intro hi2 r hr; simpa using hr.low h
      | cons up lo hi b x kids rest hu h1 h2 hH hk _ _ ih =>
       intro hi2 r hr
       have e1 : b + (x :: (kids ++ rest)).length = b + 1 + kids.length + rest.length := by simp; omega
       rw [e1] at hr
       have := Lay.cons up lo hi2 b x kids (rest ++ r) hu h1 h2 hH hk (ih hr)
       simpa using this
     simp only [List.length_append] at h2
     have := app h1 h2
     simpa [Int.add_assoc] using this
    ·intro y hy
     rcases List.mem_append.1 hy with hy | hy
     ·obtain ⟨j,p,j1,j2,j3⟩ := h.mem y hy
      exact ⟨j,p,j1,by omega,j3⟩
     ·obtain ⟨j,p,j1,j2,j3⟩ := q.mem y hy
      exact ⟨j,p,by omega,j2,j3⟩
    ·have := q.len
     have := h.len
     simp only [List.length_append]
     omega
  by_cases k1 : x.kind = 1
  ·rw [if_pos k1] at hcs
   rw [if_pos (by simp [k1])]
   have stop : ∀ (S : T.Stop),S.up = upI → S.span.frm = at_ → S.span.to = at_ + t.length → S.n = x.n →
     Tot (qh place (i : Int) >>= fun _ => if ql (out.length + 1) 200 = true then
      if x.def_ = true then
       pz (IntKind.i64.wrap ((i : Int) + 1),x.end_,at_,env,lead,unit,out ++ [S],place.set (i : Int).toNat (out.length : Int),P,ds,nm,ns,ts) >>= fun v =>
       qh v.2.2.2.2.2.2.1 (i : Int) >>= fun y =>
       gz ((hi : Int),at_ + t.length,y.end_,v.2.1,v.2.2.1,v.2.2.2.1,v.2.2.2.2.1,v.2.2.2.2.2.1,v.2.2.2.2.2.2.1,v.2.2.2.2.2.2.2.1,v.2.2.2.2.2.2.2.2.1,v.2.2.2.2.2.2.2.2.2.1,v.2.2.2.2.2.2.2.2.2.2)
      else
       qh P (i : Int) >>= fun y => gz ((hi : Int),at_ + t.length,y.end_,env,lead,unit,out ++ [S],place.set (i : Int).toNat (out.length : Int),P,ds,nm,ns,ts)
      else none) (fun v => ∃ l pl,v = (at_ + (t ++ u).length,env,lead,unit,out ++ l,pl,P,ds,nm,ns,ts) ∧ StQ P at_ i hi (t ++ u) out place upI l pl) := by
    intro S s1 s2 s3 s4
    refine Tot.bind (Tot.get (by omega) (by omega)) fun _ _ => ?_
    refine Tot.need (by simp only [ql,Bool.and_eq_true,decide_eq_true_eq]; omega) ?_
    rw [Int.toNat_natCast]
    have hset : ∀ j,j < i → (place.set i (out.length : Int))[j]? = place[j]? := fun j hj => by rw [List.getElem?_set]; rw [if_neg (by omega)]
    cases hdef : x.def_
    ·rw [if_neg (by simp)]
     refine behind [S] _ ⟨by simp,hset, ?_, ?_,by simp; omega⟩ (by simp; omega)
     ·exact .cons upI at_ _ out.length S [] [] s1 (by omega) (by omega) (by simp) (.nil _ _ _ _ (by omega)) (.nil _ _ _ _ (by omega))
     ·intro y hy
      simp only [List.mem_singleton] at hy
      subst hy
      exact ⟨i,x,Nat.le_refl _,hlt,hx,k1,s4.symm⟩
    ·rw [if_pos rfl]
     obtain ⟨w,w1,w2⟩ := qls hP hM hx k1 hdef hv he ho
     have hk2 := ihk at_ w (out ++ [S]) (place.set i (out.length : Int)) (out.length : Int) w1 h0 (by omega) (by omega) (by simpa using hpl) (by simp; omega) (.inr ⟨i,rfl,by omega,List.getElem?_set_self (by omega)⟩)
     have hk3 : Tot (pz (((i + 1 : Nat) : Int),x.end_,at_,env,lead,unit,out ++ [S],place.set i (out.length : Int),P,ds,nm,ns,ts)) (fun v => ∃ l pl,v = (at_ + w.length,env,lead,unit,out ++ [S] ++ l,pl,P,ds,nm,ns,ts) ∧ StQ P at_ (i + 1) e w (out ++ [S]) (place.set i (out.length : Int)) (out.length : Int) l pl) := by
      rw [pz.eq_1,he]
      exact Tot.bind hk2 fun v hv => .ret hv
     rw [wr (n := (i : Int) + 1) (by omega) (by omega),show ((i : Int) + 1) = ((i + 1 : Nat) : Int) by omega]
     refine Tot.bind hk3 fun v hv => ?_
     obtain ⟨l,pl,rfl,q⟩ := hv
     have e1 : out ++ [S] ++ l = out ++ (S :: l) := by simp
     simp only [e1]
     have hql := q.len
     have hcl : cnt P e ≤ cnt P (i + 1) + (e - (i + 1)) := by
      have : ∀ d,cnt P (i + 1 + d) ≤ cnt P (i + 1) + d := by
       intro d
       induction d with
       | zero => simp
       | succ d ih =>
        by_cases hd2 : i + 1 + d < P.length
        ·have := qao (List.getElem?_eq_getElem hd2)
         rw [show i + 1 + (d + 1) = i + 1 + d + 1 by omega,this]
         split <;> omega
        ·have e2 : cnt P (i + 1 + (d + 1)) = cnt P (i + 1 + d) := by unfold cnt; rw [List.take_of_length_le (by omega),List.take_of_length_le (by omega)]
         omega
      have := this (e - (i + 1))
      rw [show i + 1 + (e - (i + 1)) = e by omega] at this
      exact this
     refine behind (S :: l) pl ⟨by simpa using q.plen,fun j hj => (q.keep j (by omega)).trans (hset j hj), ?_, ?_,by simp; omega⟩ (by simp; omega)
     ·have hlay : Lay (Holds P) (out.length : Int) S.span.frm S.span.to (out.length + 1) l := by
       rw [s2,s3]
       have := q.lay
       simp only [List.length_append,List.length_cons,List.length_nil] at this
       exact this.mono (by omega)
      have := Lay.cons upI at_ (at_ + t.length) out.length S l [] s1 (by omega) (by omega) (fun y hy => ?_) hlay (.nil _ _ _ _ (by omega))
      ·simpa using this
      ·obtain ⟨j,p,j1,j2,j3,j4,j5⟩ := q.mem y hy
       rw [s4]
       exact ⟨i,j,x,p,hx,k1,hdef,rfl,by omega,by omega,j3,j4,j5⟩
     ·intro y hy
      rcases List.mem_cons.1 hy with rfl | hy
      ·exact ⟨i,x,Nat.le_refl _,hlt,hx,k1,s4.symm⟩
      ·obtain ⟨j,p,j1,j2,j3⟩ := q.mem y hy
       exact ⟨j,p,by omega,j2,j3⟩
   rcases hup with ⟨u1,u2⟩ | ⟨w,w1,w2,w3⟩
   ·rw [if_neg (by simp; omega)]
    exact stop _ u2.symm rfl rfl rfl
   ·rw [if_pos (by simp; omega)]
    have hwl := (List.getElem?_eq_some_iff.1 w3).1
    refine Tot.go (a := upI) (by rw [hu,w1,xw hwl]; simpa [List.getElem?_eq_getElem hwl] using w3) ?_
    exact stop _ rfl rfl rfl rfl
  ·rw [if_neg k1] at hcs
   rw [if_neg (by simp [k1])]
   have hde : e = i + 1 := hd ((hP.ok x (List.mem_of_getElem? hx)).other k1).1
   have := behind [] place ⟨rfl,fun _ _ => rfl,.nil _ _ _ _ (by omega),by simp,by simp; omega⟩ (by simp)
   simpa using this
end
end Go.Proofs.YtdhgdeelagmbpaaGreat
set_option linter.unusedSimpArgs false
set_option linter.unusedVariables false
namespace Go.Proofs.YtdhgdeelagmbpaaGreat
open Go Go.Gm
section
variable {env : Sl T.qi} {lead unit : Bytes} {P : List Pt} {ds : List Int} {nm : List Bytes} {ns : List Int} {ts : List Bytes}
theorem za5 (hP : Good P) (hM : wh P ns ts) {up : Int} {i hi : Nat} (hc : jh P up i hi) : ∀ (at_ : Int) (W : Bytes) (out : List T.Stop) (place : List Int) (upI : Int),yw P ns ts i hi W → 0 ≤ at_ → at_ + W.length ≤ 65536 → hi ≤ P.length → place.length = P.length → out.length + hi ≤ P.length + i →
  ((up = -1 ∧ upI = -1) ∨ ∃ u : Nat,up = u ∧ u < i ∧ place[u]? = some upI) →
  Tot (nk ((hi : Int),at_,(i : Int),env,lead,unit,place,P,ds,nm,ns,ts,out)) (fun v => ∃ l pl,v = (at_ + W.length,env,lead,unit,pl,P,ds,nm,ns,ts,out ++ l) ∧ StQ P at_ i hi W out place upI l pl) := by
 have hPl := hP.len
 induction hc with
 | nil up i =>
  intro at_ W out place upI hR h0 h1 hhi hpl hol hup
  have hT0 : W = [] := by
   cases hR with
   | nil => rfl
   | cons _ e _ x t u hx he _ hr =>
    have h3 := (hP.end_ hx).1
    have h4 : ∀ {a b : Nat} {t : Bytes},yw P ns ts a b t → a ≤ b := by
     intro a b t h
     induction h with
     | nil => omega
     | cons a e b x t u hx he _ _ ih => have := (hP.end_ hx).1; omega
    have := h4 hr
    omega
  subst hT0
  rw [nk.eq_1,if_neg (by simp)]
  exact .ret ⟨[],place,by simp,rfl,fun _ _ => rfl,.nil _ _ _ _ (by simp),by simp,by simp⟩
 | cons up i e hi x hx hu he hlt hle hk hd ho hr ihk ihr =>
  intro at_ W out place upI hR h0 h1 hhi hpl hol hup
  have hil := (List.getElem?_eq_some_iff.1 hx).1
  have hgx : qh P (i : Int) = some x := by rw [xw hil]; simpa [List.getElem?_eq_getElem hil] using hx
  obtain ⟨t,u,hTu,hv,hru⟩ : ∃ t u,W = t ++ u ∧ Val P ns ts i t ∧ yw P ns ts e hi u := by
   cases hR with
   | nil => omega
   | cons _ e' _ y t u hy hye hv hr2 =>
    rw [hx] at hy
    cases hy
    have : e' = e := by omega
    subst this
    exact ⟨t,u,rfl,hv,hr2⟩
  subst hTu
  simp only [List.length_append] at h1
  have hcs := qao hx
  have hchi : cnt P (i + 1) ≤ cnt P e := by
   unfold cnt
   exact List.Sublist.countP_le (List.take_sublist_take_left (by omega))
  rw [nk.eq_1,if_pos (by simp; omega)]
  refine Tot.go hgx ?_
  refine Tot.go (qnf hP hM i t hv) ?_
  simp only
  have ew : IntKind.i64.wrap (at_ + (t.length : Int)) = at_ + t.length := wr (by omega) (by omega)
  rw [ew]
  have behind : ∀ (l : List T.Stop) (pl : List Int),StQ P at_ i e t out place upI l pl → l.length ≤ e - i →
    Tot (qh P (i : Int) >>= fun y => nk ((hi : Int),at_ + t.length,y.end_,env,lead,unit,pl,P,ds,nm,ns,ts,out ++ l)) (fun v => ∃ l pl,v = (at_ + (t ++ u).length,env,lead,unit,pl,P,ds,nm,ns,ts,out ++ l) ∧ StQ P at_ i hi (t ++ u) out place upI l pl) := by
   intro l pl h hll
   refine Tot.go hgx ?_
   rw [he]
   refine (ihr (at_ + t.length) u (out ++ l) pl upI hru (by omega) (by omega) hhi (h.plen.trans hpl) (by simp; omega) ?_).mono fun v hv => ?_
   ·rcases hup with hup | ⟨w,w1,w2,w3⟩
    ·exact .inl hup
    ·exact .inr ⟨w,w1,by omega,by rw [h.keep w w2]; exact w3⟩
   ·obtain ⟨l2,pl2,rfl,q⟩ := hv
    refine ⟨l ++ l2,pl2,by simp [Int.add_assoc],q.plen.trans h.plen,fun j hj => (q.keep j (by omega)).trans (h.keep j hj), ?_, ?_, ?_⟩
    ·have h2 := q.lay
     have h1 := h.lay
     have app : ∀ {up lo hi : Int} {b : Nat} {l : List T.Stop},Lay (Holds P) up lo hi b l → ∀ {hi2 : Int} {r : List T.Stop},Lay (Holds P) up hi hi2 (b + l.length) r → Lay (Holds P) up lo hi2 b (l ++ r) := by
      intro up lo hi b l hl
      induction hl with
      | nil up lo hi b h => intro hi2 r hr; simpa using hr.low h
      | cons up lo hi b x kids rest hu h1 h2 hH hk _ _ ih =>
       intro hi2 r hr
       have e1 : b + (x :: (kids ++ rest)).length = b + 1 + kids.length + rest.length := by simp; omega
       rw [e1] at hr
       have := Lay.cons up lo hi2 b x kids (rest ++ r) hu h1 h2 hH hk (ih hr)
       simpa using this
     simp only [List.length_append] at h2
     have := app h1 h2
     simpa [Int.add_assoc] using this
    ·intro y hy
     rcases List.mem_append.1 hy with hy | hy
     ·obtain ⟨j,p,j1,j2,j3⟩ := h.mem y hy
      exact ⟨j,p,j1,by omega,j3⟩
     ·obtain ⟨j,p,j1,j2,j3⟩ := q.mem y hy
      exact ⟨j,p,by omega,j2,j3⟩
    ·have := q.len
     have := h.len
     simp only [List.length_append]
     omega
  by_cases k1 : x.kind = 1
  ·rw [if_pos k1] at hcs
   rw [if_pos (by simp [k1])]
   have stop : ∀ (S : T.Stop),S.up = upI → S.span.frm = at_ → S.span.to = at_ + t.length → S.n = x.n →
     Tot (qh place (i : Int) >>= fun _ => if ql (out.length + 1) 200 = true then
      if x.def_ = true then
       pz (IntKind.i64.wrap ((i : Int) + 1),x.end_,at_,env,lead,unit,out ++ [S],place.set (i : Int).toNat (out.length : Int),P,ds,nm,ns,ts) >>= fun v =>
       qh v.2.2.2.2.2.2.1 (i : Int) >>= fun y =>
       nk ((hi : Int),at_ + t.length,y.end_,v.2.1,v.2.2.1,v.2.2.2.1,v.2.2.2.2.2.1,v.2.2.2.2.2.2.1,v.2.2.2.2.2.2.2.1,v.2.2.2.2.2.2.2.2.1,v.2.2.2.2.2.2.2.2.2.1,v.2.2.2.2.2.2.2.2.2.2,v.2.2.2.2.1)
      else
       qh P (i : Int) >>= fun y => nk ((hi : Int),at_ + t.length,y.end_,env,lead,unit,place.set (i : Int).toNat (out.length : Int),P,ds,nm,ns,ts,out ++ [S])
      else none) (fun v => ∃ l pl,v = (at_ + (t ++ u).length,env,lead,unit,pl,P,ds,nm,ns,ts,out ++ l) ∧ StQ P at_ i hi (t ++ u) out place upI l pl) := by
    intro S s1 s2 s3 s4
    refine Tot.bind (Tot.get (by omega) (by omega)) fun _ _ => ?_
    refine Tot.need (by simp only [ql,Bool.and_eq_true,decide_eq_true_eq]; omega) ?_
    rw [Int.toNat_natCast]
    have hset : ∀ j,j < i → (place.set i (out.length : Int))[j]? = place[j]? := fun j hj => by rw [List.getElem?_set]; rw [if_neg (by omega)]
    cases hdef : x.def_
    ·rw [if_neg (by simp)]
     refine behind [S] _ ⟨by simp,hset, ?_, ?_,by simp; omega⟩ (by simp; omega)
     ·exact .cons upI at_ _ out.length S [] [] s1 (by omega) (by omega) (by simp) (.nil _ _ _ _ (by omega)) (.nil _ _ _ _ (by omega))
     ·intro y hy
      simp only [List.mem_singleton] at hy
      subst hy
      exact ⟨i,x,Nat.le_refl _,hlt,hx,k1,s4.symm⟩
    ·rw [if_pos rfl]
     obtain ⟨w,w1,w2⟩ := qls hP hM hx k1 hdef hv he ho
     have hk2 := qua (env := env) (lead := lead) (unit := unit) (ds := ds) (nm := nm) hP hM hk at_ w (out ++ [S]) (place.set i (out.length : Int)) (out.length : Int) w1 h0 (by omega) (by omega) (by simpa using hpl) (by simp; omega) (.inr ⟨i,rfl,by omega,List.getElem?_set_self (by omega)⟩)
     have hk3 : Tot (pz (((i + 1 : Nat) : Int),x.end_,at_,env,lead,unit,out ++ [S],place.set i (out.length : Int),P,ds,nm,ns,ts)) (fun v => ∃ l pl,v = (at_ + w.length,env,lead,unit,out ++ [S] ++ l,pl,P,ds,nm,ns,ts) ∧ StQ P at_ (i + 1) e w (out ++ [S]) (place.set i (out.length : Int)) (out.length : Int) l pl) := by
      rw [pz.eq_1,he]
      exact Tot.bind hk2 fun v hv => .ret hv
     rw [wr (n := (i : Int) + 1) (by omega) (by omega),show ((i : Int) + 1) = ((i + 1 : Nat) : Int) by omega]
     refine Tot.bind hk3 fun v hv => ?_
     obtain ⟨l,pl,rfl,q⟩ := hv
     have e1 : out ++ [S] ++ l = out ++ (S :: l) := by simp
     simp only [e1]
     have hql := q.len
     have hcl : cnt P e ≤ cnt P (i + 1) + (e - (i + 1)) := by
      have : ∀ d,cnt P (i + 1 + d) ≤ cnt P (i + 1) + d := by
       intro d
       induction d with
       | zero => simp
       | succ d ih =>
        by_cases hd2 : i + 1 + d < P.length
        ·have := qao (List.getElem?_eq_getElem hd2)
         rw [show i + 1 + (d + 1) = i + 1 + d + 1 by omega,this]
         split <;> omega
        ·have e2 : cnt P (i + 1 + (d + 1)) = cnt P (i + 1 + d) := by unfold cnt; rw [List.take_of_length_le (by omega),List.take_of_length_le (by omega)]
         omega
      have := this (e - (i + 1))
      rw [show i + 1 + (e - (i + 1)) = e by omega] at this
      exact this
     refine behind (S :: l) pl ⟨by simpa using q.plen,fun j hj => (q.keep j (by omega)).trans (hset j hj), ?_, ?_,by simp; omega⟩ (by simp; omega)
     ·have hlay : Lay (Holds P) (out.length : Int) S.span.frm S.span.to (out.length + 1) l := by
       rw [s2,s3]
       have := q.lay
       simp only [List.length_append,List.length_cons,List.length_nil] at this
       exact this.mono (by omega)
      have := Lay.cons upI at_ (at_ + t.length) out.length S l [] s1 (by omega) (by omega) (fun y hy => ?_) hlay (.nil _ _ _ _ (by omega))
      ·simpa using this
      ·obtain ⟨j,p,j1,j2,j3,j4,j5⟩ := q.mem y hy
       rw [s4]
       exact ⟨i,j,x,p,hx,k1,hdef,rfl,by omega,by omega,j3,j4,j5⟩
     ·intro y hy
      rcases List.mem_cons.1 hy with rfl | hy
      ·exact ⟨i,x,Nat.le_refl _,hlt,hx,k1,s4.symm⟩
      ·obtain ⟨j,p,j1,j2,j3⟩ := q.mem y hy
       exact ⟨j,p,by omega,j2,j3⟩
   rcases hup with ⟨u1,u2⟩ | ⟨w,w1,w2,w3⟩
   ·rw [if_neg (by simp; omega)]
    exact stop _ u2.symm rfl rfl rfl
   ·rw [if_pos (by simp; omega)]
    have hwl := (List.getElem?_eq_some_iff.1 w3).1
    refine Tot.go (a := upI) (by rw [hu,w1,xw hwl]; simpa [List.getElem?_eq_getElem hwl] using w3) ?_
    exact stop _ rfl rfl rfl rfl
  ·rw [if_neg k1] at hcs
   rw [if_neg (by simp [k1])]
   have hde : e = i + 1 := hd ((hP.ok x (List.mem_of_getElem? hx)).other k1).1
   have := behind [] place ⟨rfl,fun _ _ => rfl,.nil _ _ _ _ (by omega),by simp,by simp; omega⟩ (by simp)
   simpa using this
theorem qrv (hP : Good P) : ∀ (q : List Pt) (k : Nat) (m : Int),P.drop k = q → 0 ≤ m → m ≤ k → Tot (q3g (m,(k : Int),env,lead,unit,P,ds,nm)) (fun v => v + cnt P k = m + cnt P P.length) := by
 have hl := hP.len
 intro q
 induction q with
 | nil =>
  intro k m hk h0 h1
  rw [q3g.eq_1,if_neg (by simpa using zw hk)]
  have := nz hk
  refine .ret ?_
  have : cnt P k = cnt P P.length := by unfold cnt; rw [List.take_of_length_le this,List.take_of_length_le (Nat.le_refl _)]
  omega
 | cons x q ih =>
  intro k m hk h0 h1
  obtain ⟨a1,a2,a3,a4⟩ := zq hk
  obtain ⟨b1,_,_⟩ := drop_cons hk
  have hc := qao b1
  rw [q3g.eq_1,if_pos (by simpa using a1),wrS (by omega) a1]
  refine Tot.go a2 ?_
  (apply Tot.ite <;> intro hT <;> try simp (disch := omega) only [tfx.down,q9,qa] at hT)
  ·rw [if_pos hT] at hc
   rw [wr (n := m + 1) (by omega) (by omega)]
   exact (ih (k + 1) (m + 1) a3 (by omega) (by omega)).mono fun v hv => by omega
  ·rw [if_neg hT] at hc
   exact (ih (k + 1) m a3 (by omega) (by omega)).mono fun v hv => by omega
theorem zas (s : Bytes) (pl : List Int) (st : List T.Stop) (hs : st.length ≤ 40000000) : ∀ (q : List T.Stop) (k : Nat) (z : Bool),st.drop k = q → (z = true → ∃ x ∈ st,x.n = 0 ∧ x.turned = false) →
  Tot (q2n (s,z,(k : Int),env,lead,unit,P,ds,nm,ns,ts,pl,st)) (fun v => v = true → ∃ x ∈ st,x.n = 0 ∧ x.turned = false) := by
 intro q
 induction q with
 | nil =>
  intro k z hk hz
  rw [q2n.eq_1,if_neg (by simpa using zw hk)]
  exact .ret hz
 | cons x q ih =>
  intro k z hk hz
  obtain ⟨a1,a2,a3,a4⟩ := zq hk
  rw [q2n.eq_1,if_pos (by simpa using a1),wrS (by omega) a1]
  (apply Tot.ite <;> intro hT <;> try simp (disch := omega) only [tfx.down,q9,qa] at hT)
  ·have hz1 := hT
   exact ih (k + 1) true a3 fun _ => hz hz1
  ·refine Tot.go a2 ?_
   (apply Tot.ite <;> intro hT <;> try simp (disch := omega) only [tfx.down,q9,qa] at hT)
   ·have h0 := hT
    exact ih (k + 1) _ a3 fun h => ⟨x,a4,h0,by simpa using h⟩
   ·exact ih (k + 1) _ a3 (by simp)
end
structure qe5 (s : Bytes) (st : List T.Stop) : Prop where
 len : s.length ≤ 65536
 lay : ∃ H : Int → Int → Prop,Lay H (-1) 0 s.length 0 st ∧ ∀ n,¬ Relation.TransGen H n n
 many : 0 < st.length ∧ st.length ≤ 257
 n : ∀ x ∈ st,0 ≤ x.n ∧ x.n ≤ 100000000
theorem zb9 {env : Sl T.qi} {lead unit : Bytes} (hE : q9j env lead unit) (l : Sl T.qb) (hl : qd (l.l.map snW) ≤ 8192002) : Tot (qag l env lead unit) (fun r => r.2.2 = 0 → qe5 r.1 r.2.1.l) := by
 unfold qag
 refine Tot.bind (z2w l (by omega)) fun v hv => ?_
 (apply Tot.ite <;> intro hT <;> try simp (disch := omega) only [tfx.down,q9,qa] at hT)
 ·exact .ret (by simp)
 have hS := hv hT
 refine Tot.bind (z3x hE l hl hS (-1)) fun k hk => ?_
 obtain ⟨e1,e2,e3,⟨t,t1,t2,t3⟩,hI,_⟩ := hk
 obtain ⟨k1,k2,k3,r,kd,kn⟩ := k
 simp only at e1 e2 e3 t1 hI
 subst e1 e2 e3
 simp only [List.nil_append] at t1
 subst t1
 simp only [List.length_nil] at t2
 refine Tot.bind (qw5 r kd kn t2 hI (by omega)) fun P hP => ?_
 refine Tot.bind (zc0 P kd kn hP) fun w hw => ?_
 (apply Tot.ite <;> intro hT <;> try simp (disch := omega) only [tfx.down,q9,qa] at hT)
 ·exact .ret (by simp)
 have hN := hw hT
 have hPl := hP.len
 have hmany := qrv (env := k1) (lead := k2) (unit := k3) (ds := kd) (nm := kn) hP P 0 0 rfl (by omega) (by omega)
 refine Tot.bind hmany fun m hm => ?_
 (apply Tot.ite <;> intro hT <;> try simp (disch := omega) only [tfx.down,q9,qa] at hT)
 ·exact .ret (by simp)
 have hm256 := hT
 have hcnt : cnt P P.length ≤ 256 := by
  have : cnt P 0 = 0 := by simp [cnt]
  omega
 have hM0 : wh P [] [] := ⟨rfl,by simp,by simp,fun n t h => by obtain ⟨k,h,_⟩ := h; simp at h⟩
 have hrow := zmw (env := k1) (lead := k2) (unit := k3) (ds := kd) (nm := kn) hP hP.chain [] [] [] (by simp) hM0 (fun j y ns ts h1 h2 h3 h4 =>
  qoj hP hN j y h3 ns ts h4 fun _ => qtd hP hN _ y.n rfl ns ts h4)
 have hrow2 : Tot (qas (0 : Int) (P.length : Int) k1 k2 k3 P kd kn) (fun v => v.2.1 = 0 → ∃ ns ts,v = (v.1,0,k1,k2,k3,P,kd,kn,ns,ts) ∧ wh P ns ts ∧ yw P ns ts 0 P.length v.1 ∧ v.1.length ≤ 65536) := by
  unfold qas
  refine Tot.bind hrow fun w hw => ?_
  rcases w with w | w
  ·exact .ret fun h => absurd h hw
  ·obtain ⟨a,b,t,rfl,w2,w3,w4,w5⟩ := hw
   exact .ret fun _ => ⟨a,b,by simp,by simpa using w2,by simpa using w4,by simpa using w5⟩
 refine Tot.bind hrow2 fun y hy => ?_
 (apply Tot.ite <;> intro hT <;> try simp (disch := omega) only [tfx.down,q9,qa] at hT)
 ·exact .ret fun h => absurd h hT
 obtain ⟨ns,ts,e,y2,y3,y4⟩ := hy hT
 rw [e]
 simp only
 generalize y.1 = s at y3 y4 ⊢
 refine Tot.need (by omega) ?_
 refine Tot.need (by simp only [ql,Bool.and_eq_true,decide_eq_true_eq]; omega) ?_
 have hst := za5 (env := k1) (lead := k2) (unit := k3) (ds := kd) (nm := kn) hP y2 hP.chain 0 s [] (List.replicate P.length 0) (-1) y3 (by omega) (by omega) (Nat.le_refl _) (by simp) (by simp) (.inl ⟨rfl,rfl⟩)
 have hst2 : Tot (qby (0 : Int) (P.length : Int) (0 : Int) k1 k2 k3 (List.replicate P.length 0) P kd kn ns ts) (fun v => ∃ l pl,v = ((0 : Int) + s.length,k1,k2,k3,pl,P,kd,kn,ns,ts,[] ++ l) ∧ StQ P 0 0 P.length s [] (List.replicate P.length 0) (-1) l pl) := by
  unfold qby
  exact Tot.bind hst fun v hv => .ret hv
 rw [show (P.length : Int).toNat = P.length by simp]
 refine Tot.bind hst2 fun z hz => ?_
 obtain ⟨st,pl,rfl,q⟩ := hz
 simp only [List.nil_append]
 have hql := q.len
 have hc0 : cnt P 0 = 0 := by simp [cnt]
 have hnn : ∀ x ∈ st,0 ≤ x.n ∧ x.n ≤ 100000000 := by
  intro x hx
  obtain ⟨j,p,_,_,j3,_,j5⟩ := q.mem x hx
  rw [← j5]
  exact hP.n p (List.mem_of_getElem? j3)
 have hlay : Lay (Holds P) (-1) 0 s.length 0 st := by
  have := q.lay
  simpa using this
 refine Tot.bind (zas s pl st (by omega) st 0 false rfl (by simp)) fun z hz => ?_
 (apply Tot.ite <;> intro hT <;> try simp (disch := omega) only [tfx.down,q9,qa] at hT)
 ·refine Tot.need (by simp only [ql,Bool.and_eq_true,decide_eq_true_eq]; omega) ?_
  refine .ret fun _ => ⟨y4,⟨Holds P,hlay.snoc _ rfl rfl rfl,hN⟩,by simp; omega,fun x hx => ?_⟩
  rcases List.mem_append.1 hx with hx | hx
  ·exact hnn x hx
  ·simp only [List.mem_singleton] at hx
   subst hx
   simp
 ·obtain ⟨x,hx,_⟩ := hz hT
  refine .ret fun _ => ⟨y4,⟨Holds P,hlay,hN⟩,⟨List.length_pos_of_mem hx,by simp only; omega⟩,hnn⟩
end Go.Proofs.YtdhgdeelagmbpaaGreat
set_option linter.unusedSimpArgs false
set_option linter.unusedVariables false
namespace Go.Proofs.YtdhgdeelagmbpaaGreat
open Go Go.Gm
def xc (l : List T.Stop) (u : Nat) : List Nat :=
 match l[u]? with
 | some x => if h : 0 ≤ x.up ∧ x.up < u then x.up.toNat :: xc l x.up.toNat else []
 | none => []
termination_by u
decreasing_by omega
theorem q2f {l : List T.Stop} {u v : Nat} {x : T.Stop} (hx : l[u]? = some x) (hv : x.up = v) (h : v < u) : xc l u = v :: xc l v := by
 rw [xc.eq_1,hx]
 have h2 : 0 ≤ x.up ∧ x.up < u := by omega
 have h3 : x.up.toNat = v := by omega
 simp only [h2,and_self,↓reduceDIte,h3]
theorem qdh {l : List T.Stop} {u : Nat} {x : T.Stop} (hx : l[u]? = some x) (h : ¬ (0 ≤ x.up ∧ x.up < u)) : xc l u = [] := by
 rw [xc.eq_1,hx]
 simp only [h,↓reduceDIte]
theorem qg2 (l : List T.Stop) (u : Nat) : ∀ v ∈ xc l u,v < u := by
 induction u using Nat.strongRecOn with
 | _ u ih =>
 intro v hv
 cases hx : l[u]? with
 | none => rw [xc.eq_1,hx] at hv; simp at hv
 | some x =>
  by_cases h : 0 ≤ x.up ∧ x.up < u
  ·obtain ⟨p,hp⟩ : ∃ p : Nat,x.up = p := ⟨x.up.toNat,by omega⟩
   rw [q2f hx hp (by omega)] at hv
   rcases List.mem_cons.1 hv with rfl | hv
   ·omega
   ·have := ih p (by omega) v hv; omega
  ·rw [qdh hx h] at hv; simp at hv
theorem qdo {l : List T.Stop} {u p : Nat} (hp : p ∈ xc l u) (j : Nat) : u ∈ xc l j → p ∈ xc l j := by
 induction j using Nat.strongRecOn with
 | _ j ih =>
 intro hu
 cases hx : l[j]? with
 | none => rw [xc.eq_1,hx] at hu; simp at hu
 | some x =>
  by_cases h : 0 ≤ x.up ∧ x.up < j
  ·obtain ⟨q,hq⟩ : ∃ q : Nat,x.up = q := ⟨x.up.toNat,by omega⟩
   rw [q2f hx hq (by omega)] at hu ⊢
   rcases List.mem_cons.1 hu with rfl | hu
   ·exact List.mem_cons_of_mem _ hp
   ·exact List.mem_cons_of_mem _ (ih q (by omega) hu)
  ·rw [qdh hx h] at hu; simp at hu
theorem zkk {i : T.zf} {u v : Nat} {y : T.Stop} (hy : qh i.stops.l (u : Int) = some y) (hv : y.up = v) (h : v < u) : q6h i (u : Int) = some (v : Int) := by
 unfold q6h
 simp only [hy,Option.bind_eq_bind,Option.bind_some]
 rw [if_pos (by simp [hv]; omega),hv]
theorem qvn {i : T.zf} {u : Nat} {y : T.Stop} (hy : qh i.stops.l (u : Int) = some y) (h : ¬ (0 ≤ y.up ∧ y.up < u)) : q6h i (u : Int) = some (-1) := by
 unfold q6h
 simp only [hy,Option.bind_eq_bind,Option.bind_some]
 rw [if_neg (by simp; omega)]
theorem qi0 {l : List T.Stop} {u : Nat} {x : T.Stop} (hx : l[u]? = some x) {v : Nat} (h : v ∈ xc l u) : ∃ p : Nat,x.up = p ∧ p < u ∧ (v = p ∨ v ∈ xc l p) := by
 by_cases hv : 0 ≤ x.up ∧ x.up < u
 ·obtain ⟨p,hp⟩ : ∃ p : Nat,x.up = p := ⟨x.up.toNat,by omega⟩
  rw [q2f hx hp (by omega)] at h
  exact ⟨p,hp,by omega,List.mem_cons.1 h⟩
 ·rw [qdh hx hv] at h
  cases h
def q6u (l : List T.Stop) (k : Nat) (x : T.Stop) : Prop := x.up = -1 ∨ ∃ v : Nat,x.up = v ∧ 0 < k ∧ (v = k - 1 ∨ v ∈ xc l (k - 1))
structure q49 (i : T.zf) (k : Nat) (x : T.Stop) : Prop where
 pl : q6u i.stops.l k x
 le : x.span.frm ≤ x.span.to
 top : x.up = -1 → i.span.frm ≤ x.span.frm ∧ x.span.to ≤ i.span.to
 ins : ∀ (v : Nat) (y : T.Stop),x.up = v → i.stops.l[v]? = some y → y.span.frm ≤ x.span.frm ∧ x.span.to ≤ y.span.to
 sib : ∀ (j : Nat) (y : T.Stop),j < k → i.stops.l[j]? = some y → y.up = x.up → y.span.to ≤ x.span.frm
def q51 (i : T.zf) : Prop := ∀ (k : Nat) (x : T.Stop),i.stops.l[k]? = some x → q49 i k x
theorem q6u.lt {l : List T.Stop} {k : Nat} {x : T.Stop} (h : q6u l k x) : -1 ≤ x.up ∧ x.up < k := by
 rcases h with h | ⟨v,h1,h2,h3⟩
 ·omega
 ·rcases h3 with h3 | h3
  ·omega
  ·have := qg2 _ _ _ h3; omega
theorem zcd (i : T.zf) (k : Nat) (x : T.Stop) (hx : qh i.stops.l (k : Int) = some x) (u : Nat) : u < i.stops.l.length → ∃ t : Bool,q14 ((k : Int),(u : Int),i) = some (if t then .inl true else .inr ()) ∧ (t = true ↔ ∃ v : Nat,x.up = v ∧ (v = u ∨ v ∈ xc i.stops.l u)) := by
 induction u using Nat.strongRecOn with
 | _ u ih =>
 intro hu
 have hy := xw hu
 have hy2 : i.stops.l[u]? = some i.stops.l[u] := by simp [hu]
 generalize i.stops.l[u] = y at hy hy2
 have hend : q14 ((k : Int),-1,i) = some (.inr ()) := by
  rw [q14.eq_1]
  rfl
 rw [q14.eq_1,if_pos (by simp)]
 by_cases e : x.up = u
 ·exact ⟨true,by simp [hx,e],by simp only [true_iff]; exact ⟨u,e,.inl rfl⟩⟩
 ·have e2 : (x.up == (u : Int)) = false := by simpa using e
  by_cases hv : 0 ≤ y.up ∧ y.up < u
  ·obtain ⟨q,hq⟩ : ∃ q : Nat,y.up = q := ⟨y.up.toNat,by omega⟩
   obtain ⟨t,t1,t2⟩ := ih q (by omega) (by omega)
   refine ⟨t, ?_, ?_⟩
   ·simp only [hx,zkk hy hq (by omega),Option.bind_eq_bind,Option.bind_some,e2]
    simpa using t1
   ·rw [t2,q2f hy2 hq (by omega)]
    constructor
    ·rintro ⟨v,h1,h2⟩
     exact ⟨v,h1,.inr (List.mem_cons.2 h2)⟩
    ·rintro ⟨v,h1,h2 | h2⟩
     ·exact absurd (h2 ▸ h1) e
     ·exact ⟨v,h1,List.mem_cons.1 h2⟩
  ·refine ⟨false, ?_, ?_⟩
   ·simp only [hx,qvn hy hv,Option.bind_eq_bind,Option.bind_some,e2]
    simpa using hend
   ·rw [qdh hy2 hv]
    simp only [Bool.false_eq_true,false_iff]
    rintro ⟨v,h1,h2 | h2⟩
    ·exact e (h2 ▸ h1)
    ·cases h2
theorem qrz (i : T.zf) (hl : i.stops.l.length < 2 ^ 60) (k : Nat) (x : T.Stop) (hx : qh i.stops.l (k : Int) = some x) (hk : k < i.stops.l.length) : ∃ t : Bool,qc9 i (k : Int) = some t ∧ (t = true ↔ q6u i.stops.l k x) := by
 unfold qc9
 rw [q9 (by omega) (by omega)]
 have none : q14 ((k : Int),-1,i) = some (.inr ()) := by
  rw [q14.eq_1]
  rfl
 by_cases h0 : k = 0
 ·subst h0
  rw [show ((0 : Nat) : Int) - 1 = -1 by omega,none]
  have hx' : qh i.stops.l (0 : Int) = some x := hx
  refine ⟨x.up == -1,by simp [hx'], ?_⟩
  simp only [beq_iff_eq,q6u]
  constructor
  ·exact .inl
  ·rintro (h | ⟨v,_,h,_⟩)
   ·exact h
   ·omega
 ·rw [show (k : Int) - 1 = ((k - 1 : Nat) : Int) by omega]
  obtain ⟨t,t1,t2⟩ := zcd i k x hx (k - 1) (by omega)
  rw [t1]
  cases t with
  | true =>
   refine ⟨true,rfl, ?_⟩
   simp only [true_iff] at t2 ⊢
   obtain ⟨v,h1,h2⟩ := t2
   exact .inr ⟨v,h1,by omega,h2⟩
  | false =>
   refine ⟨x.up == -1,by simp [hx], ?_⟩
   simp only [beq_iff_eq,q6u]
   simp only [Bool.false_eq_true,false_iff] at t2
   constructor
   ·exact .inl
   ·rintro (h | ⟨v,h1,_,h2⟩)
    ·exact h
    ·exact absurd ⟨v,h1,h2⟩ t2
structure qde (l : List T.Stop) (k : Nat) (ends : jv) : Prop where
 fwd : ∀ (j : Nat) x,j < k → l[j]? = some x → x.span.frm ≤ x.span.to ∧ uj ends x.up = true ∧ x.span.to ≤ bq ends x.up
 bwd : ∀ u,uj ends u = true → ∃ (j : Nat) (x : T.Stop),j < k ∧ l[j]? = some x ∧ x.up = u ∧ bq ends u = x.span.to
theorem qe8 {l : List T.Stop} {k : Nat} {ends : jv} (h : qde l k ends) (x : T.Stop) : ((uj ends x.up && decide (x.span.frm < bq ends x.up)) = false) ↔ ∀ (j : Nat) (y : T.Stop),j < k → l[j]? = some y → y.up = x.up → y.span.to ≤ x.span.frm := by
 constructor
 ·intro h1 j y hj hy hu
  obtain ⟨_,b,c⟩ := h.fwd j y hj hy
  rw [hu] at b c
  simp only [b,Bool.true_and,decide_eq_false_iff_not] at h1
  omega
 ·intro h1
  cases hm : uj ends x.up
  ·rfl
  ·obtain ⟨j,y,hj,hy,hu,he⟩ := h.bwd _ hm
   have := h1 j y hj hy hu
   simp only [Bool.true_and,decide_eq_false_iff_not]
   omega
theorem z5s {l : List T.Stop} {k : Nat} {ends : jv} (h : qde l k ends) (x : T.Stop) (hx : l[k]? = some x) (h1 : x.span.frm ≤ x.span.to) (h2 : (uj ends x.up && decide (x.span.frm < bq ends x.up)) = false) : qde l (k + 1) (ny ends x.up x.span.to) := by
 constructor
 ·intro j y hj hy
  rw [qmt,qjr]
  by_cases hjk : j = k
  ·subst hjk
   rw [hx] at hy
   cases hy
   simp [h1]
  ·obtain ⟨a,b,c⟩ := h.fwd j y (by omega) hy
   refine ⟨a,by simp [b], ?_⟩
   by_cases e : y.up = x.up
   ·rw [if_pos e]
    rw [e] at b c
    simp only [b,Bool.true_and,decide_eq_false_iff_not] at h2
    omega
   ·rw [if_neg e]
    exact c
 ·intro u hu
  rw [qjr]
  rw [qmt] at hu
  by_cases e : u = x.up
  ·exact ⟨k,x,by omega,hx,e.symm,by rw [if_pos e]⟩
  ·rw [if_neg e] at hu ⊢
   obtain ⟨j,y,hj,hy⟩ := h.bwd u hu
   exact ⟨j,y,by omega,hy⟩
theorem qmu (a b : T.Span) : q9h a b = some (decide (a.frm ≥ b.frm) && decide (a.to ≤ b.to)) := by
 unfold q9h
 by_cases h : a.frm ≥ b.frm <;> simp [h]
theorem zg8 (i : T.zf) (hl : i.stops.l.length < 2 ^ 60) : ∀ (d k : Nat) (ends : jv),k + d = i.stops.l.length → qde i.stops.l k ends →
  Tot (q2i (i.stops,(i.stops.l.length : Int),(k : Int),i,ends)) (fun v => match v with | .inl y => y.1 = false ∧ ¬ (∀ (j : Nat) (x : T.Stop),k ≤ j → i.stops.l[j]? = some x → q49 i j x) | .inr _ => ∀ (j : Nat) (x : T.Stop),k ≤ j → i.stops.l[j]? = some x → q49 i j x) := by
 intro d
 induction d with
 | zero =>
  intro k ends hk _
  rw [q2i.eq_1,if_neg (by simp; omega)]
  refine .ret fun j x hj hx => ?_
  have := (List.getElem?_eq_some_iff.1 hx).1
  omega
 | succ d ih =>
  intro k ends hk hs
  have hkl : k < i.stops.l.length := by omega
  have hx : i.stops.l[k]? = some i.stops.l[k] := by simp [hkl]
  have hg := xw hkl
  generalize i.stops.l[k] = x at hx hg
  obtain ⟨t,t1,t2⟩ := qrz i hl k x hg hkl
  rw [q2i.eq_1,if_pos (by simp; omega),q2y (by omega)]
  refine Tot.go hg (Tot.go t1 ?_)
  have bad : ¬ q49 i k x → Tot (some (Sum.inl (false,ends)) : Option ((Bool × jv) ⊕ jv)) (fun v => match v with | .inl y => y.1 = false ∧ ¬ (∀ (j : Nat) (x : T.Stop),k ≤ j → i.stops.l[j]? = some x → q49 i j x) | .inr _ => ∀ (j : Nat) (x : T.Stop),k ≤ j → i.stops.l[j]? = some x → q49 i j x) :=
   fun h => .ret ⟨rfl,fun h2 => h (h2 k x (Nat.le_refl _) hx)⟩
  have good : q49 i k x → (uj ends x.up && decide (x.span.frm < bq ends x.up)) = false → Tot (q2i (i.stops,(i.stops.l.length : Int),((k + 1 : Nat) : Int),i,ny ends x.up x.span.to)) (fun v => match v with | .inl y => y.1 = false ∧ ¬ (∀ (j : Nat) (x : T.Stop),k ≤ j → i.stops.l[j]? = some x → q49 i j x) | .inr _ => ∀ (j : Nat) (x : T.Stop),k ≤ j → i.stops.l[j]? = some x → q49 i j x) := by
   intro h1 h2
   refine (ih (k + 1) _ (by omega) (z5s hs x hx h1.le h2)).mono fun v hv => ?_
   rcases v with v | v
   ·exact ⟨hv.1,fun h => hv.2 fun j y hj hy => h j y (by omega) hy⟩
   ·intro j y hj hy
    rcases Nat.eq_or_lt_of_le hj with rfl | hj
    ·rw [hx] at hy
     cases hy
     exact h1
    ·exact hv j y hj hy
  (apply Tot.ite <;> intro hT <;> try simp (disch := omega) only [tfx.down,q9,qa] at hT)
  ·have hc := hT
   refine bad fun h => ?_
   rcases hc with hc | hc
   ·have := t2.2 h.pl
    rw [hc] at this
    cases this
   ·have := h.le
    omega
  have hc := hT
  have hpl := t2.1 hc.1
  have hlt := hpl.lt
  (apply Tot.ite <;> intro hT <;> try simp (disch := omega) only [tfx.down,q9,qa] at hT)
  ·have hu0 := hT
   obtain ⟨v,hv⟩ : ∃ v : Nat,x.up = v := ⟨x.up.toNat,by omega⟩
   have hvl : v < i.stops.l.length := by omega
   have hy : i.stops.l[v]? = some i.stops.l[v] := by simp [hvl]
   have hgy := xw hvl
   generalize i.stops.l[v] = y at hy hgy
   refine Tot.go (a := y) (by rw [hv]; exact hgy) (Tot.go (qmu _ _) ?_)
   refine Tot.ite (fun hb => ?_) fun hb => ?_
   ·refine bad fun h => ?_
    have h1 := h.ins v y hv hy
    have h2 := (qe8 hs x).2 h.sib
    rw [h2] at hb
    simp at hb
    omega
   ·simp only [Bool.or_eq_true,Bool.not_eq_true',not_or,Bool.not_eq_true,Bool.not_eq_false,Bool.and_eq_true,decide_eq_true_eq] at hb
    have hb2 : (uj ends x.up && decide (x.span.frm < bq ends x.up)) = false := Bool.eq_false_iff.2 (by simpa using hb.2)
    refine good ⟨hpl,by omega,fun h => by omega,fun w z hw hz => ?_,(qe8 hs x).1 hb2⟩ hb2
    have : w = v := by omega
    subst this
    rw [hy] at hz
    cases hz
    exact hb.1
  ·have hu0 := hT
   refine Tot.go (qmu _ _) ?_
   refine Tot.ite (fun hb => ?_) fun hb => ?_
   ·refine bad fun h => ?_
    have h1 := h.top (by omega)
    have h2 := (qe8 hs x).2 h.sib
    rw [h2] at hb
    simp at hb
    omega
   ·simp only [Bool.or_eq_true,Bool.not_eq_true',not_or,Bool.not_eq_true,Bool.not_eq_false,Bool.and_eq_true,decide_eq_true_eq] at hb
    have hb2 : (uj ends x.up && decide (x.span.frm < bq ends x.up)) = false := Bool.eq_false_iff.2 (by simpa using hb.2)
    exact good ⟨hpl,by omega,fun _ => hb.1,fun w z hw hz => by omega,(qe8 hs x).1 hb2⟩ hb2
theorem z6g (i : T.zf) (hl : i.stops.l.length < 2 ^ 60) (n : Int) : ∃ t : Bool,qb8 i n = some t ∧ (t = true ↔ (0 ≤ i.span.frm ∧ i.span.frm ≤ i.span.to ∧ i.span.to ≤ n) ∧ q51 i) := by
 obtain ⟨v,hv1,hv2⟩ := zg8 i hl i.stops.l.length 0 ⟨[],0⟩ (by omega) ⟨fun j x hj => by omega,fun u hu => by simp [qtx] at hu⟩
 simp only [Int.natCast_zero] at hv1
 have hs : q9q i.span n = some (decide (0 ≤ i.span.frm ∧ i.span.frm ≤ i.span.to ∧ i.span.to ≤ n)) := by
  unfold q9q
  by_cases h1 : i.span.frm ≥ 0 <;> by_cases h2 : i.span.frm ≤ i.span.to <;> simp [h1,h2] <;> omega
 unfold qb8
 rw [hs]
 simp only [Option.bind_eq_bind,Option.bind_some]
 by_cases h0 : 0 ≤ i.span.frm ∧ i.span.frm ≤ i.span.to ∧ i.span.to ≤ n
 ·simp only [h0,and_self,decide_true,Bool.not_true,Bool.false_eq_true,if_false,hv1,Option.bind_some,true_and]
  rcases v with v | v
  ·refine ⟨v.1,rfl, ?_⟩
   rw [hv2.1]
   simp only [Bool.false_eq_true,false_iff]
   exact fun h => hv2.2 fun j x _ hx => h j x hx
  ·refine ⟨true,rfl, ?_⟩
   simp only [true_iff]
   exact fun j x hx => hv2 j x (Nat.zero_le _) hx
 ·refine ⟨false,by simp [h0],by simp [h0]⟩
end Go.Proofs.YtdhgdeelagmbpaaGreat
