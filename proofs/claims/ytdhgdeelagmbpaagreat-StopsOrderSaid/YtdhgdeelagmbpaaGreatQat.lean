/-
  The law StopsOrder, on plain data.
-/
import Derived.Test.YtdhgdeelagmbpaaGreatQas
import Derived.Test.YtdhgdeelagmbpaaGreatQah
set_option linter.unusedSimpArgs false
set_option linter.unusedVariables false
namespace Go.Proofs.YtdhgdeelagmbpaaGreat
open Go Go.Gm
section
variable {i : T.za} (h : q5v i)
include h
theorem q5v.between {w : Nat} : ∀ j,w ∈ zi i.stops.l j → ∀ a,w < a → a ≤ j → w ∈ zi i.stops.l a := by
 intro j
 induction j with
 | zero => intro hw; have := qao _ _ _ hw; omega
 | succ j ih =>
  intro hw a h1 h2
  rcases Nat.eq_or_lt_of_le h2 with rfl | h2
  ·exact hw
  cases hx : i.stops.l[j + 1]? with
  | none => rw [zi.eq_1,hx] at hw; simp at hw
  | some x =>
   obtain ⟨p,p1,p2,p3⟩ := qdf hx hw
   refine ih ?_ a h1 (by omega)
   rcases (h _ _ hx).pl with e | ⟨v,e,_,v2⟩
   ·omega
   ·have : p = v := by omega
    subst this
    simp only [Nat.add_sub_cancel] at v2
    rcases v2 with rfl | v2
    ·rcases p3 with rfl | p3
     ·omega
     ·exact p3
    ·rcases p3 with rfl | p3
     ·exact v2
     ·exact qid p3 _ v2
theorem q5v.inside : ∀ (j w : Nat) (x y : T.Stop),i.stops.l[j]? = some x → i.stops.l[w]? = some y → w ∈ zi i.stops.l j → y.span.frm ≤ x.span.frm ∧ x.span.to ≤ y.span.to := by
 intro j
 induction j using Nat.strongRecOn with
 | _ j ih =>
 intro w x y hx hy hw
 obtain ⟨p,p1,p2,p3⟩ := qdf hx hw
 rcases p3 with rfl | p3
 ·exact (h _ _ hx).ins w y p1 hy
 ·have hj := (List.getElem?_eq_some_iff.1 hx).1
  have hz : i.stops.l[p]? = some i.stops.l[p] := by simp [show p < i.stops.l.length by omega]
  generalize i.stops.l[p] = z at hz
  have a1 := (h _ _ hx).ins p z p1 hz
  have a2 := ih p p2 w z y hz hy p3
  omega
theorem q5v.side {w : Int} : ∀ (a : Nat) (x : T.Stop),i.stops.l[a]? = some x → (w = -1 ∨ ∃ q : Nat,w = q ∧ q ∈ zi i.stops.l a) → ∃ (s : Nat) (y : T.Stop),(s = a ∨ s ∈ zi i.stops.l a) ∧ i.stops.l[s]? = some y ∧ y.up = w := by
 intro a
 induction a using Nat.strongRecOn with
 | _ a ih =>
 intro x hx hw
 by_cases e : x.up = w
 ·exact ⟨a,x,.inl rfl,hx,e⟩
 have hl := (h _ _ hx).pl.lt
 have hj := (List.getElem?_eq_some_iff.1 hx).1
 have hp : ∃ p : Nat,x.up = p := by
  rcases hw with rfl | ⟨q,rfl,hq⟩
  ·exact ⟨x.up.toNat,by omega⟩
  ·obtain ⟨p,p1,_⟩ := qdf hx hq
   exact ⟨p,p1⟩
 obtain ⟨p,hp⟩ := hp
 have hz : i.stops.l[p]? = some i.stops.l[p] := by simp [show p < i.stops.l.length by omega]
 generalize i.stops.l[p] = z at hz
 obtain ⟨s,y,s1,s2,s3⟩ := ih p (by omega) z hz (by
  rcases hw with rfl | ⟨q,rfl,hq⟩
  ·exact .inl rfl
  ·refine .inr ⟨q,rfl, ?_⟩
   rw [q0d hx hp (by omega)] at hq
   rcases List.mem_cons.1 hq with rfl | hq
   ·exact absurd hp e
   ·exact hq)
 refine ⟨s,y,.inr ?_,s2,s3⟩
 rw [q0d hx hp (by omega)]
 exact List.mem_cons.2 s1
theorem q5v.apart {a m b : Nat} {x y z : T.Stop} (ha : i.stops.l[a]? = some x) (hm : i.stops.l[m]? = some y) (hb : i.stops.l[b]? = some z) (hmb : m = b ∨ m ∈ zi i.stops.l b) (ham : a < m) (hup : y.up < a) : x.span.to ≤ z.span.frm := by
 have hin : y.span.frm ≤ z.span.frm := by
  rcases hmb with rfl | hmb
  ·rw [hm] at hb; cases hb; exact Int.le_refl _
  ·exact (h.inside b m z y hb hm hmb).1
 obtain ⟨s,t,s1,s2,s3⟩ := h.side (w := y.up) a x ha (by
  rcases (h _ _ hm).pl with e | ⟨v,e,_,v2⟩
  ·exact .inl e
  ·refine .inr ⟨v,e, ?_⟩
   have : v ∈ zi i.stops.l m := by rw [q0d hm e (by omega)]; exact List.mem_cons_self
   exact h.between m this a (by omega) (by omega))
 have hsm : s < m := by
  rcases s1 with rfl | s1
  ·exact ham
  ·have := qao _ _ _ s1; omega
 have a1 := (h _ _ hm).sib s t hsm s2 s3
 have a2 : x.span.to ≤ t.span.to := by
  rcases s1 with rfl | s1
  ·rw [ha] at s2; cases s2; exact Int.le_refl _
  ·exact (h.inside a s x t ha s2 s1).2
 omega
end
end Go.Proofs.YtdhgdeelagmbpaaGreat
set_option linter.unusedSimpArgs false
set_option linter.unusedVariables false
namespace Go.Proofs.YtdhgdeelagmbpaaGreat
open Go Go.Gm
theorem zju {up lo hi : Int} {H : Int → Int → Prop} {b : Nat} {l : List T.Stop} (h : Lay H up lo hi b l) (hub : up < b) : ∀ x ∈ l,lo ≤ x.span.frm ∧ x.span.frm ≤ x.span.to ∧ x.span.to ≤ hi := by
 intro x hx
 obtain ⟨k,hk⟩ := List.mem_iff_getElem?.1 hx
 have := h.in_ hub k x hk
 exact ⟨this.lo,this.le,this.hi⟩
theorem qs5 (at_ : Int) (h0 : 0 ≤ at_) (h1 : at_ ≤ 1000) (p : Sl T.Stop) (hp : ∀ x ∈ p.l,0 ≤ x.span.frm ∧ x.span.frm ≤ x.span.to ∧ x.span.to ≤ 65536) (hm : p.l.length ≤ 257) (t : T.za) (e1 e2 : Int) :
  ∀ (d k : Nat) (out : List T.Stop),k + d = p.l.length → out = (p.l.take k).map (uu at_) → q5b (at_,p,(k : Int),t,e1,e2,out) = some (p.l.map (uu at_)) := by
 intro d
 induction d with
 | zero =>
  intro k out hk ho
  rw [q5b.eq_1,if_neg (by simp; omega),ho,show k = p.l.length by omega,List.take_length]
 | succ d ih =>
  intro k out hk ho
  have hkl : k < p.l.length := by omega
  have hx := zq hkl
  have hx2 : p.l[k]? = some p.l[k] := by simp [hkl]
  generalize p.l[k] = x at hx hx2
  obtain ⟨a1,a2,a3⟩ := hp x (List.mem_of_getElem? hx2)
  have hol : out.length = k := by rw [ho]; simp; omega
  rw [q5b.eq_1,if_pos (by simp; omega),wy (by omega)]
  simp only [hx,Option.bind_eq_bind,Option.bind_some]
  rw [if_pos (zx (by omega) (by omega)),q9 (by omega) (by omega),q9 (by omega) (by omega)]
  refine ih (k + 1) _ (by omega) ?_
  rw [List.take_add_one,hx2,List.map_append,ho]
  rfl
theorem z94 : q9h ⟨true,[]⟩ [] [] := ⟨by simp,by simp,by simp,by simp⟩
theorem zgo (s : Bytes) : ∃ (ok : Bool) (a : Bytes) (st : List T.Stop),(ok = true → qal a st) ∧ ∀ at_ : Int,0 ≤ at_ → at_ ≤ 1000 → q81 s at_ = some (if ok then (T.za.mk ⟨at_,at_ + a.length⟩ ⟨false,st.map (uu at_)⟩,true) else (T.za.mk ⟨0,0⟩ ⟨true,[]⟩,false)) := by
 obtain ⟨v,hv,hv1,_⟩ := qyg s
 obtain ⟨r,hr,hr1⟩ := z7a z94 v.1 hv1
 by_cases hc : v.2 = 0 ∧ r.2.2 = 0
 ·have hM := hr1 hc.2
  refine ⟨true,r.1,r.2.1.l,fun _ => hM,fun at_ h0 h1 => ?_⟩
  obtain ⟨H,hL,_⟩ := hM.lay
  have hsp : ∀ x ∈ r.2.1.l,0 ≤ x.span.frm ∧ x.span.frm ≤ x.span.to ∧ x.span.to ≤ 65536 := by
   intro x hx
   have := zju hL (by omega) x hx
   have := hM.len
   omega
  have hlen := hM.len
  unfold q81
  simp only [hv,hr,hc.1,hc.2,Option.bind_eq_bind,Option.bind_some]
  have := qs5 at_ h0 h1 r.2.1 hsp hM.many.2 (T.za.mk ⟨0,0⟩ ⟨true,[]⟩) at_ (IntKind.i64.wrap (at_ + (r.1.length : Int))) r.2.1.l.length 0 [] (by omega) (by simp)
  simp only [Int.natCast_zero] at this
  simp only [bne_self_eq_false,Bool.or_self,Bool.false_eq_true,if_false,this,Option.bind_some,if_true]
  rw [q9 (by omega) (by omega)]
  have hne : (r.2.1.l.map (uu at_)).isEmpty = false := by
   have := hM.many.1
   cases h : r.2.1.l with
   | nil => rw [h] at this; simp at this
   | cons => rfl
  rw [hne]
 ·refine ⟨false,[],[],by simp,fun at_ h0 h1 => ?_⟩
  unfold q81
  simp only [hv,hr,Option.bind_eq_bind,Option.bind_some]
  rw [if_pos (by simp only [Bool.or_eq_true,bne_iff_ne,ne_eq]; omega)]
  rfl
theorem qal.idx {a : Bytes} {st : List T.Stop} (h : qal a st) (at_ : Int) : q5v ⟨⟨at_,at_ + a.length⟩,⟨false,st.map (uu at_)⟩⟩ := by
 obtain ⟨H,hL,_⟩ := h.lay
 have := hL.shift at_
 refine Lay.idx (H := H) ?_
 rw [Int.zero_add,Int.add_comm] at this
 exact this
end Go.Proofs.YtdhgdeelagmbpaaGreat
set_option linter.unusedSimpArgs false
set_option linter.unusedVariables false
namespace Go.Proofs.YtdhgdeelagmbpaaGreat
open Go Go.Gm
def jk (m : zg) : List Int := m.es.map (·.1)
structure MOK (m : zg) : Prop where
 kn : (jk m).Nodup
 sn : (m.es.map (·.2.2)).Nodup
 sc : ∀ e ∈ m.es,e.2.2 < m.clock
theorem qae (k : Int) : ∀ (l : List (Int × Int × Nat)) (i j : Nat) (v : Int) (b : Nat),zn k l i = some (j,v,b) → ∃ d,j = i + d ∧ l[d]? = some (k,v,b)
 | [],i,j,v,b,h => by simp [zn] at h
 | (x,u,c) :: r,i,j,v,b,h => by
  simp only [zn] at h
  split at h
  ·rename_i hk
   simp only [beq_iff_eq] at hk
   subst hk
   simp only [Option.some.injEq,Prod.mk.injEq] at h
   obtain ⟨rfl,rfl,rfl⟩ := h
   exact ⟨0,rfl,rfl⟩
  ·obtain ⟨d,rfl,hd⟩ := qae k r (i + 1) j v b h
   exact ⟨d + 1,by omega,by simpa using hd⟩
theorem qbo (k : Int) : ∀ (l : List (Int × Int × Nat)) (i : Nat),zn k l i = none ↔ k ∉ l.map (·.1)
 | [],i => by simp [zn]
 | (x,u,c) :: r,i => by
  simp only [zn]
  split
  ·rename_i hk
   simp only [beq_iff_eq] at hk
   simp [hk]
  ·rename_i hk
   have : k ≠ x := by simpa using hk
   rw [qbo k r (i + 1)]
   simp [this]
theorem qjp (m : zg) (k : Int) : q71 m k = true ↔ k ∈ jk m := by
 unfold q71 jk
 cases h : zn k m.es 0 with
 | none => simpa using (qbo k m.es 0).1 h
 | some x =>
  obtain ⟨j,v,b⟩ := x
  obtain ⟨d,_,hd⟩ := qae k _ _ _ _ _ h
  simp only [Option.isSome_some,true_iff]
  exact List.mem_map.2 ⟨_,List.mem_of_getElem? hd,rfl⟩
theorem qni {α : Type} {l : List α} {d : Nat} {x : α} (h : l[d]? = some x) : l.set d x = l := by
 apply List.ext_getElem?
 intro i
 rw [List.getElem?_set]
 split
 ·rename_i hd
  subst hd
  have := (List.getElem?_eq_some_iff.1 h).1
  rw [h]
  simp [this]
 ·rfl
theorem qnv {α : Type} : ∀ {l : List α} {d : Nat} {x : α},l[d]? = some x → l.Perm (x :: l.eraseIdx d)
 | [],d,x,h => by simp at h
 | y :: l,0,x,h => by simp at h; subst h; exact .refl _
 | y :: l,d + 1,x,h => ((qnv (l := l) (by simpa using h)).cons y).trans (.swap x y _)
theorem quz {m : zg} (h : MOK m) (k v : Int) : MOK (wo m k v) := by
 unfold wo
 cases hf : zn k m.es 0 with
 | none =>
  have hk := (qbo k m.es 0).1 hf
  refine ⟨?_, ?_, ?_⟩
  ·simp only [jk,List.map_append,List.map_cons,List.map_nil]
   refine List.nodup_append.2 ⟨h.kn,by simp,fun a ha b hb => ?_⟩
   simp at hb
   subst hb
   exact fun e => hk (e ▸ ha)
  ·simp only [List.map_append,List.map_cons,List.map_nil]
   refine List.nodup_append.2 ⟨h.sn,by simp,fun a ha b hb => ?_⟩
   simp at hb
   subst hb
   obtain ⟨e,he,rfl⟩ := List.mem_map.1 ha
   have := h.sc e he
   omega
  ·intro e he
   rcases List.mem_append.1 he with he | he
   ·have := h.sc e he; simp only; omega
   ·simp at he; subst he; simp
 | some x =>
  obtain ⟨j,w,b⟩ := x
  obtain ⟨d,rfl,hd⟩ := qae k _ _ _ _ _ hf
  simp only [Nat.zero_add]
  have e1 : ((m.es.set d (k,v,b)).map (·.1)) = m.es.map (·.1) := by
   rw [List.map_set]
   exact qni (by simp [hd])
  have e2 : ((m.es.set d (k,v,b)).map (·.2.2)) = m.es.map (·.2.2) := by
   rw [List.map_set]
   exact qni (by simp [hd])
  refine ⟨by simp only [jk,e1]; exact h.kn,by rw [e2]; exact h.sn,fun e he => ?_⟩
  have : e.2.2 ∈ (m.es.set d (k,v,b)).map (·.2.2) := List.mem_map.2 ⟨e,he,rfl⟩
  rw [e2] at this
  obtain ⟨e',he',heq⟩ := List.mem_map.1 this
  have := h.sc e' he'
  simp only at heq ⊢
  omega
theorem z0h (m : zg) (k v : Int) : (wo m k v).es.length ≤ m.es.length + 1 := by
 unfold wo
 split <;> simp
theorem qxs (m : zg) (k v x : Int) : x ∈ jk (wo m k v) ↔ x = k ∨ x ∈ jk m := by
 rw [← qjp,← qjp,zd5]
 split <;> simp_all
theorem qvb {m : zg} (h : MOK m) (k : Int) : MOK (mf m k) ∧ (∀ x,x ∈ jk (mf m k) ↔ x ∈ jk m ∧ x ≠ k) ∧ (mf m k).es.length ≤ m.es.length := by
 unfold mf
 cases hf : zn k m.es 0 with
 | none =>
  have hk := (qbo k m.es 0).1 hf
  exact ⟨h,fun x => ⟨fun hx => ⟨hx,fun e => hk (e ▸ hx)⟩,fun hx => hx.1⟩,Nat.le_refl _⟩
 | some y =>
  obtain ⟨j,w,b⟩ := y
  obtain ⟨d,rfl,hd⟩ := qae k _ _ _ _ _ hf
  simp only [Nat.zero_add]
  have hs : (m.es.eraseIdx d).Sublist m.es := List.eraseIdx_sublist _ _
  have hdl := (List.getElem?_eq_some_iff.1 hd).1
  refine ⟨⟨h.kn.sublist (hs.map _),h.sn.sublist (hs.map _),fun e he => h.sc e (hs.subset he)⟩,fun x => ?_,by rw [List.length_eraseIdx]; split <;> omega⟩
  have e1 : jk ⟨m.es.eraseIdx d,m.clock⟩ = (jk m).eraseIdx d := by simp only [jk,qhr]
  have hkd : (jk m)[d]? = some k := by simp [jk,hd]
  rw [e1]
  have hp : (jk m).Perm (k :: (jk m).eraseIdx d) := qnv hkd
  have hn := hp.nodup_iff.1 h.kn
  rw [List.nodup_cons] at hn
  constructor
  ·intro hx
   exact ⟨hp.mem_iff.2 (by simp [hx]),fun e => hn.1 (e ▸ hx)⟩
  ·rintro ⟨hx,hne⟩
   rcases List.mem_cons.1 (hp.mem_iff.1 hx) with e | hx
   ·exact absurd e hne
   ·exact hx
def bu (l : List Int) : Prop := l.Pairwise (· < ·)
theorem qp0 : ∀ {a b : List Int},bu a → bu b → (∀ x,x ∈ a ↔ x ∈ b) → a = b
 | [],[],_,_,_ => rfl
 | [],y :: b,_,_,h => by have := (h y).2 (by simp); simp at this
 | x :: a,[],_,_,h => by have := (h x).1 (by simp); simp at this
 | x :: a,y :: b,ha,hb,h => by
  have ha' := List.pairwise_cons.1 ha
  have hb' := List.pairwise_cons.1 hb
  have hxy : x = y := by
   have h1 := (h x).1 (by simp)
   have h2 := (h y).2 (by simp)
   rcases List.mem_cons.1 h1 with e | h1
   ·exact e
   ·rcases List.mem_cons.1 h2 with e | h2
    ·exact e.symm
    ·have := ha'.1 y h2; have := hb'.1 x h1; omega
  subst hxy
  refine congrArg _ (qp0 ha'.2 hb'.2 fun z => ?_)
  constructor
  ·intro hz
   have := ha'.1 z hz
   rcases List.mem_cons.1 ((h z).1 (by simp [hz])) with e | h1
   ·omega
   ·exact h1
  ·intro hz
   have := hb'.1 z hz
   rcases List.mem_cons.1 ((h z).2 (by simp [hz])) with e | h1
   ·omega
   ·exact h1
theorem zsi {l : List Int} (h : l.Nodup) : bu (xx l) := by
 have h1 := qgx l
 have h2 : (xx l).Nodup := (qa2 l).nodup_iff.2 h
 have : (xx l).Pairwise (fun a b => a ≤ b ∧ a ≠ b) := h1.and h2
 exact this.imp fun h => by omega
theorem zci {m : zg} (h : MOK m) (hk : ∀ k ∈ jk m,inI k) (hl : m.es.length ≤ 1099511627776) : q66 m = some (xx (jk m)) := by
 unfold q66
 rw [if_pos]
 ·rfl
 ·simp only [qe6,Bool.and_eq_true,decide_eq_true_eq,List.all_eq_true,List.length_map]
  refine ⟨⟨⟨⟨h.kn,fun k hkm => ?_⟩,h.sn⟩,fun b hb => ?_⟩,hl⟩
  ·have := hk k hkm
   exact this
  ·obtain ⟨e,he,rfl⟩ := List.mem_map.1 hb
   exact h.sc e he
end Go.Proofs.YtdhgdeelagmbpaaGreat
set_option linter.unusedSimpArgs false
set_option linter.unusedVariables false
namespace Go.Proofs.YtdhgdeelagmbpaaGreat
open Go Go.Gm
theorem zao (a b : Sl Int) (h : a.l = b.l) (hl : a.l.length < 2 ^ 60) : ∀ (d k : Nat),k + d = a.l.length → q4l (a,b,(k : Int)) = some (.inr ()) := by
 intro d
 induction d with
 | zero =>
  intro k hk
  rw [q4l.eq_1,if_neg (by simp; omega)]
 | succ d ih =>
  intro k hk
  have hkl : k < a.l.length := by omega
  have hx := zq hkl
  have hy : qd b.l (k : Int) = some a.l[k] := by rw [← h]; exact hx
  have hw : IntKind.i64.wrap ((k : Int) + 1) = ((k + 1 : Nat) : Int) := wy (by omega)
  rw [q4l.eq_1,if_pos (by simpa using hkl)]
  simp only [hx,hy,Option.bind_eq_bind,Option.bind_some,hw]
  rw [if_neg (by simp),ih (k + 1) (by omega)]
theorem zbp (a b : Sl Int) (h : a.l = b.l) (hl : a.l.length < 2 ^ 60) : qca a b = some true := by
 have := zao a b h hl a.l.length 0 (by omega)
 simp only [Int.natCast_zero] at this
 unfold qca
 rw [if_neg (by rw [h]; simp),this]
 rfl
end Go.Proofs.YtdhgdeelagmbpaaGreat
set_option linter.unusedSimpArgs false
set_option linter.unusedVariables false
namespace Go.Proofs.YtdhgdeelagmbpaaGreat
open Go Go.Gm
theorem qk5 {n b : Nat} (h : n ≤ 1099511627776) (hb : b ≤ 64) : qj n b = true := by
 simp only [qj,Bool.and_eq_true,decide_eq_true_eq]
 refine ⟨⟨?_,by omega⟩,by omega⟩
 calc n * b ≤ n * 64 := Nat.mul_le_mul_left _ hb
  _ ≤ 2 ^ 46 := by omega
theorem zfq (ns : Sl Int) (n : Int) (hl : ns.l.length < 2 ^ 60) : ∀ (d k : Nat),k + d = ns.l.length → (∀ j x,j < k → ns.l[j]? = some x → x < n) →
  ∃ p : Nat,q4p (ns,n,(k : Int)) = some (p : Int) ∧ p ≤ ns.l.length ∧ (∀ j x,j < p → ns.l[j]? = some x → x < n) ∧ (∀ x,ns.l[p]? = some x → n ≤ x) := by
 intro d
 induction d with
 | zero =>
  intro k hk hj
  obtain rfl : k = ns.l.length := by omega
  refine ⟨ns.l.length, ?_,Nat.le_refl _,hj,by simp⟩
  rw [q4p.eq_1]
  simp
 | succ d ih =>
  intro k hk hj
  have hkl : k < ns.l.length := by omega
  have hx := zq hkl
  have hx' : ns.l[k]? = some ns.l[k] := by simp [hkl]
  generalize ns.l[k] = x at hx hx'
  have hw : IntKind.i64.wrap ((k : Int) + 1) = ((k + 1 : Nat) : Int) := wy (by omega)
  rw [q4p.eq_1]
  simp only [hx,Option.bind_eq_bind,Option.bind_some,hw]
  by_cases h : x < n
  ·obtain ⟨p,h1,h2⟩ := ih (k + 1) (by omega) (fun j y hjk hy => by
    by_cases e : j = k
    ·subst e; rw [hx'] at hy; cases hy; exact h
    ·exact hj j y (by omega) hy)
   exact ⟨p,by simpa [hkl,h] using h1,h2⟩
  ·exact ⟨k,by simp [hkl,h],by omega,hj,fun y hy => by rw [hx'] at hy; cases hy; omega⟩
theorem zs4 (ns : Sl Int) (n : Int) (hl : ns.l.length ≤ 1000) (hr : bu ns.l) : ∃ out,qbc ns n = some out ∧ bu out.l ∧ (∀ x,x ∈ out.l ↔ x = n ∨ x ∈ ns.l) ∧ out.l.length ≤ ns.l.length + 1 := by
 obtain ⟨p,h1,h2,h3,h4⟩ := zfq ns n (by omega) ns.l.length 0 (by omega) (fun j x hj => by omega)
 simp only [Int.natCast_zero] at h1
 have hT : yh ns.l (p : Int) = some (ns.l.take p) := by unfold yh; rw [if_pos (by simp; omega)]; simp
 have hF : jf ns.l (p : Int) = some (ns.l.drop p) := by unfold jf; rw [if_pos (by simp; omega)]; simp
 have hroom : ∀ k,k ≤ 3000 → qj k 8 = true := fun k hk => qk5 (by omega) (by omega)
 have mid : (∀ x,ns.l[p]? = some x → n < x) → bu ((ns.l.take p ++ [n]) ++ ns.l.drop p) ∧ (∀ x,x ∈ (ns.l.take p ++ [n]) ++ ns.l.drop p ↔ x = n ∨ x ∈ ns.l) ∧ ((ns.l.take p ++ [n]) ++ ns.l.drop p).length ≤ ns.l.length + 1 := by
  intro hlt
  have hsp : ns.l.take p ++ ns.l.drop p = ns.l := List.take_append_drop p ns.l
  have hr2 : bu (ns.l.take p ++ ns.l.drop p) := by rw [hsp]; exact hr
  obtain ⟨r1,r2,r3⟩ := List.pairwise_append.1 hr2
  have a1 : ∀ x ∈ ns.l.take p,x < n := by
   intro x hx
   obtain ⟨j,hj⟩ := List.getElem?_of_mem hx
   have hjl := (List.getElem?_eq_some_iff.1 hj).1
   simp at hjl
   rw [List.getElem?_take_of_lt (by omega)] at hj
   exact h3 j x (by omega) hj
  have a2 : ∀ x ∈ ns.l.drop p,n < x := by
   intro x hx
   cases hd : ns.l.drop p with
   | nil => rw [hd] at hx; simp at hx
   | cons y r =>
    have hy : ns.l[p]? = some y := by
     have := congrArg (fun l => l[0]?) hd
     simpa using this
    have := hlt y hy
    rw [hd] at hx r2
    rcases List.mem_cons.1 hx with rfl | hx
    ·exact this
    ·have := (List.pairwise_cons.1 r2).1 x hx
     omega
  refine ⟨?_,fun x => ?_,by simp; omega⟩
  ·refine List.pairwise_append.2 ⟨List.pairwise_append.2 ⟨r1,by simp,fun x hx y hy => ?_⟩,r2,fun x hx y hy => ?_⟩
   ·simp at hy; subst hy; exact a1 x hx
   ·rcases List.mem_append.1 hx with hx | hx
    ·exact r3 x hx y hy
    ·simp at hx; subst hx; exact a2 y hy
  ·have : x ∈ ns.l ↔ x ∈ ns.l.take p ∨ x ∈ ns.l.drop p := by rw [← List.mem_append,hsp]
   rw [this]
   simp only [List.mem_append,List.mem_singleton]
   constructor
   ·rintro ((h | h) | h)
    ·exact .inr (.inl h)
    ·exact .inl h
    ·exact .inr (.inr h)
   ·rintro (h | h | h)
    ·exact .inl (.inr h)
    ·exact .inl (.inl h)
    ·exact .inr h
 unfold qbc
 simp only [h1,hT,hF,Option.bind_eq_bind,Option.bind_some]
 by_cases hp : p < ns.l.length
 ·have hx := zq hp
  have hx' : ns.l[p]? = some ns.l[p] := by simp [hp]
  generalize ns.l[p] = x at hx hx'
  have hge := h4 x hx'
  rw [if_pos (by simpa using hp),hx]
  simp only [Option.bind_some]
  by_cases e : x = n
  ·refine ⟨ns,by simp [e],hr,fun y => ⟨fun h => .inr h, ?_⟩,by omega⟩
   rintro (rfl | h)
   ·exact e ▸ List.mem_of_getElem? hx'
   ·exact h
  ·obtain ⟨m1,m2,m3⟩ := mid (fun y hy => by rw [hx'] at hy; cases hy; omega)
   refine ⟨⟨false,(ns.l.take p ++ [n]) ++ ns.l.drop p⟩, ?_,m1,m2,m3⟩
   rw [if_neg (by simpa using e),if_pos (hroom _ (by simp; omega)),if_pos (hroom _ (by simp; omega)),if_pos (hroom _ (by simp; omega))]
 ·obtain ⟨m1,m2,m3⟩ := mid (fun y hy => by
   have := (List.getElem?_eq_some_iff.1 hy).1
   omega)
  refine ⟨⟨false,(ns.l.take p ++ [n]) ++ ns.l.drop p⟩, ?_,m1,m2,m3⟩
  rw [if_neg (by simpa using hp),if_pos (hroom _ (by simp; omega)),if_pos (hroom _ (by simp; omega)),if_pos (hroom _ (by simp; omega))]
theorem qtw {m : zg} {k v : Int} {e : Int × Int × Nat} (h : e ∈ (wo m k v).es) : e.2.1 = v ∨ e ∈ m.es := by
 unfold wo at h
 split at h
 ·rcases List.mem_or_eq_of_mem_set h with h | h
  ·exact .inr h
  ·exact .inl (by rw [h])
 ·simp only [List.mem_append,List.mem_singleton] at h
  rcases h with h | h
  ·exact .inr h
  ·exact .inl (by rw [h])
theorem zgk {m : zg} {k : Int} {e : Int × Int × Nat} (h : e ∈ (mf m k).es) : e ∈ m.es := by
 unfold mf at h
 split at h
 ·exact List.mem_of_mem_eraseIdx h
 ·exact h
structure Lft (m : zg) (P : Int → Prop) (B : Nat) : Prop where
 ok : MOK m
 keys : ∀ x,x ∈ jk m ↔ P x
 pos : ∀ e ∈ m.es,1 ≤ e.2.1 ∧ e.2.1 ≤ B
 len : m.es.length ≤ B
theorem Lft.get {m : zg} {P : Int → Prop} {B : Nat} (h : Lft m P B) (q : Int) : 0 ≤ je m q ∧ je m q ≤ B ∧ (je m q = 0 ↔ ¬ P q) := by
 rw [← h.keys]
 cases hf : zn q m.es 0 with
 | none =>
  have hk := (qbo q m.es 0).1 hf
  have : je m q = 0 := by unfold je; rw [hf]
  rw [this]
  refine ⟨by omega,by omega, ?_⟩
  simp only [true_iff]
  exact hk
 | some x =>
  obtain ⟨j,v,b⟩ := x
  obtain ⟨d,_,hd⟩ := qae q _ _ _ _ _ hf
  have hm := List.mem_of_getElem? hd
  have hv : je m q = v := by unfold je; rw [hf]
  have hp := h.pos _ hm
  simp only at hp
  have hk : q ∈ jk m := List.mem_map.2 ⟨_,hm,rfl⟩
  rw [hv]
  refine ⟨by omega,by omega, ?_⟩
  constructor
  ·intro e; omega
  ·intro e; exact absurd hk e
theorem qlo {m : zg} {P : Int → Prop} {B : Nat} (h : Lft m P B) (hB : B < 100000) (n : Int) : Lft (wo m n (IntKind.i64.wrap (je m n + 1))) (fun x => x = n ∨ P x) (B + 1) := by
 have hg := h.get n
 rw [q9 (by omega) (by omega)]
 refine ⟨quz h.ok _ _,fun x => by rw [qxs,h.keys],fun e he => ?_, ?_⟩
 ·rcases qtw he with e1 | e1
  ·rw [e1]; omega
  ·have := h.pos e e1; omega
 ·have := z0h m n (je m n + 1)
  have := h.len
  omega
theorem q14 {m : zg} {P Q : Int → Prop} {B : Nat} (h : Lft m P B) (hq : ∀ x,P x ↔ Q x) : Lft m Q B := ⟨h.ok,fun x => (h.keys x).trans (hq x),h.pos,h.len⟩
theorem q52 {m : zg} {P : Int → Prop} {B C : Nat} (h : Lft m P B) (hq : B ≤ C) : Lft m P C := ⟨h.ok,h.keys,fun e he => by have := h.pos e he; omega,by have := h.len; omega⟩
theorem qk3 (B : Nat) : Lft ⟨[],0⟩ (fun _ => False) B := ⟨⟨by simp [jk],by simp,by simp⟩,by simp [jk],by simp,by simp⟩
theorem zny (i : T.za) (hl : i.stops.l.length ≤ 300) : ∀ (d k : Nat) (m : zg),k + d = i.stops.l.length → Lft m (fun x => x ∈ (i.stops.l.take k).map (·.n)) k →
  ∃ m',q5s (i.stops,(i.stops.l.length : Int),(k : Int),i,m) = some m' ∧ Lft m' (fun x => x ∈ i.stops.l.map (·.n)) 300 := by
 intro d
 induction d with
 | zero =>
  intro k m hk h
  obtain rfl : k = i.stops.l.length := by omega
  refine ⟨m, ?_, ?_⟩
  ·rw [q5s.eq_1,if_neg (by simp)]
  ·rw [List.take_length] at h
   exact q52 h hl
 | succ d ih =>
  intro k m hk h
  have hkl : k < i.stops.l.length := by omega
  have hx := zq hkl
  have ht : i.stops.l.take (k + 1) = i.stops.l.take k ++ [i.stops.l[k]] := by rw [List.take_append_getElem]
  generalize i.stops.l[k] = x at hx ht
  have hw : IntKind.i64.wrap ((k : Int) + 1) = ((k + 1 : Nat) : Int) := wy (by omega)
  rw [q5s.eq_1,if_pos (by simp; omega)]
  simp only [hx,Option.bind_eq_bind,Option.bind_some,hw]
  refine ih (k + 1) _ (by omega) (q14 (qlo h (by omega) x.n) fun q => ?_)
  rw [ht]
  simp [or_comm]
theorem zq2 (i : T.za) (hl : i.stops.l.length ≤ 300) (t12 : Sl T.Stop) (t13 t14 : Int) (left : zg) (s : T.Stop) (u : Nat) : ∀ (out : zg) (P : Int → Prop) (B : Nat),u < i.stops.l.length → B + u < 95000 → Lft out P B →
  ∃ out',mg ((u : Int),t12,t13,t14,left,i,out,s) = some out' ∧
   Lft out' (fun q => P q ∨ ∃ v x,(v = u ∨ v ∈ zi i.stops.l u) ∧ i.stops.l[v]? = some x ∧ x.n = q ∧ q ≠ s.n) (B + u + 1) := by
 induction u using Nat.strongRecOn with
 | _ u ih =>
 intro out P B hu hB h
 have hy := zq hu
 have hy2 : i.stops.l[u]? = some i.stops.l[u] := by simp [hu]
 generalize i.stops.l[u] = y at hy hy2
 have h1 : ∃ out1,Lft out1 (fun q => P q ∨ (y.n = q ∧ q ≠ s.n)) (B + 1) ∧ mg ((u : Int),t12,t13,t14,left,i,out,s) = (q28 i (u : Int)).bind fun v => mg (v,t12,t13,t14,left,i,out1,s) := by
  by_cases e : y.n = s.n
  ·refine ⟨out,q14 (q52 h (by omega)) fun q => ?_, ?_⟩
   ·constructor
    ·exact .inl
    ·rintro (h | ⟨h1,h2⟩)
     ·exact h
     ·exact absurd (h1.symm.trans e) h2
   ·rw [mg.eq_1,if_pos (by simp)]
    simp only [hy,Option.bind_eq_bind,Option.bind_some]
    rw [if_neg (by simpa using e)]
  ·refine ⟨_,q14 (qlo h (by omega) y.n) fun q => ?_, ?_⟩
   ·constructor
    ·rintro (rfl | h)
     ·exact .inr ⟨rfl,e⟩
     ·exact .inl h
    ·rintro (h | ⟨h1,h2⟩)
     ·exact .inr h
     ·exact .inl h1.symm
   ·conv => lhs; rw [mg.eq_1,if_pos (by simp)]
    simp only [hy,Option.bind_eq_bind,Option.bind_some]
    rw [if_pos (by simpa using e)]
 obtain ⟨out1,h1,he⟩ := h1
 rw [he]
 by_cases hv : 0 ≤ y.up ∧ y.up < u
 ·obtain ⟨p,hp⟩ : ∃ p : Nat,y.up = p := ⟨y.up.toNat,by omega⟩
  rw [qij hy hp (by omega)]
  obtain ⟨out',h2,h3⟩ := ih p (by omega) out1 _ (B + 1) (by omega) (by omega) h1
  refine ⟨out',h2,q14 (q52 h3 (by omega)) fun q => ?_⟩
  rw [q0d hy2 hp (by omega)]
  constructor
  ·rintro ((h | ⟨h1,h2⟩) | ⟨v,x,h1,h2⟩)
   ·exact .inl h
   ·exact .inr ⟨u,y,.inl rfl,hy2,h1,h2⟩
   ·exact .inr ⟨v,x,.inr (List.mem_cons.2 h1),h2⟩
  ·rintro (h | ⟨v,x,h1,h2⟩)
   ·exact .inl (.inl h)
   ·rcases h1 with rfl | h1
    ·rw [hy2] at h2
     obtain ⟨h2,h3⟩ := h2
     cases h2
     exact .inl (.inr h3)
    ·exact .inr ⟨v,x,List.mem_cons.1 h1,h2⟩
 ·rw [qmk hy hv]
  refine ⟨out1, ?_,q14 (q52 h1 (by omega)) fun q => ?_⟩
  ·simp only [Option.bind_some]
   rw [mg.eq_1,if_neg (by simp)]
  ·rw [q64 hy2 hv]
   constructor
   ·rintro (h | ⟨h1,h2⟩)
    ·exact .inl h
    ·exact .inr ⟨u,y,.inl rfl,hy2,h1,h2⟩
   ·rintro (h | ⟨v,x,h1,h2⟩)
    ·exact .inl h
    ·rcases h1 with rfl | h1
     ·rw [hy2] at h2
      obtain ⟨h2,h3⟩ := h2
      cases h2
      exact .inr h3
     ·simp at h1
def qbm (l : List T.Stop) (L : Int → Prop) (K : Nat) (q : Int) : Prop :=
 ∃ k x v y,k < K ∧ l[k]? = some x ∧ L x.n ∧ v ∈ zi l k ∧ l[v]? = some y ∧ y.n = q ∧ q ≠ x.n
theorem zok (i : T.za) (hl : i.stops.l.length ≤ 300) (left : zg) (L : Int → Prop) (B : Nat) (hL : Lft left L B) : ∀ (d k : Nat) (out : zg),k + d = i.stops.l.length → Lft out (qbm i.stops.l L k) (300 * k) →
  ∃ out',q3a (i.stops,(i.stops.l.length : Int),(k : Int),left,i,out) = some out' ∧ Lft out' (qbm i.stops.l L i.stops.l.length) 90000 := by
 intro d
 induction d with
 | zero =>
  intro k out hk h
  obtain rfl : k = i.stops.l.length := by omega
  refine ⟨out, ?_,q52 h (by omega)⟩
  rw [q3a.eq_1,if_neg (by simp)]
 | succ d ih =>
  intro k out hk h
  have hkl : k < i.stops.l.length := by omega
  have hx := zq hkl
  have hx2 : i.stops.l[k]? = some i.stops.l[k] := by simp [hkl]
  generalize i.stops.l[k] = x at hx hx2
  have hw : IntKind.i64.wrap ((k : Int) + 1) = ((k + 1 : Nat) : Int) := wy (by omega)
  rw [q3a.eq_1,if_pos (by simp; omega)]
  simp only [hx,Option.bind_eq_bind,Option.bind_some,hw]
  by_cases hz : je left x.n = 0
  ·rw [if_pos (by simpa using hz)]
   refine ih (k + 1) out (by omega) (q14 (q52 h (by omega)) fun q => ?_)
   constructor
   ·rintro ⟨a,z,v,y,h1,h2⟩
    exact ⟨a,z,v,y,by omega,h2⟩
   ·rintro ⟨a,z,v,y,h1,h2,h3,h4⟩
    by_cases e : a = k
    ·subst e
     rw [hx2] at h2
     cases h2
     exact absurd h3 ((hL.get x.n).2.2.1 hz)
    ·exact ⟨a,z,v,y,by omega,h2,h3,h4⟩
  ·rw [if_neg (by simpa using hz)]
   have hLx : L x.n := Classical.byContradiction fun hn => hz ((hL.get x.n).2.2.2 hn)
   by_cases hv : 0 ≤ x.up ∧ x.up < k
   ·obtain ⟨p,hp⟩ : ∃ p : Nat,x.up = p := ⟨x.up.toNat,by omega⟩
    rw [qij hx hp (by omega)]
    obtain ⟨out1,h1,h2⟩ := zq2 i hl i.stops (i.stops.l.length : Int) (k : Int) left x p out _ (300 * k) (by omega) (by omega) h
    simp only [Option.bind_some,h1]
    refine ih (k + 1) out1 (by omega) (q14 (q52 h2 (by omega)) fun q => ?_)
    constructor
    ·rintro (⟨a,z,v,y,h1,h2⟩ | ⟨v,y,h1,h2,h3,h4⟩)
     ·exact ⟨a,z,v,y,by omega,h2⟩
     ·refine ⟨k,x,v,y,by omega,hx2,hLx, ?_,h2,h3,h4⟩
      rw [q0d hx2 hp (by omega)]
      exact List.mem_cons.2 h1
    ·rintro ⟨a,z,v,y,g1,g2,g3,g4,g5⟩
     by_cases e : a = k
     ·subst e
      rw [hx2] at g2
      cases g2
      rw [q0d hx2 hp (by omega)] at g4
      exact .inr ⟨v,y,List.mem_cons.1 g4,g5⟩
     ·exact .inl ⟨a,z,v,y,by omega,g2,g3,g4,g5⟩
   ·rw [qmk hx hv]
    have h1 : mg (-1,i.stops,(i.stops.l.length : Int),(k : Int),left,i,out,x) = some out := by
     rw [mg.eq_1,if_neg (by simp)]
    simp only [Option.bind_some,h1]
    refine ih (k + 1) out (by omega) (q14 (q52 h (by omega)) fun q => ?_)
    constructor
    ·rintro ⟨a,z,v,y,h1,h2⟩
     exact ⟨a,z,v,y,by omega,h2⟩
    ·rintro ⟨a,z,v,y,h1,h2,h3,h4,h5⟩
     by_cases e : a = k
     ·subst e
      rw [hx2] at h2
      cases h2
      rw [q64 hx2 hv] at h4
      simp at h4
     ·exact ⟨a,z,v,y,by omega,h2,h3,h4,h5⟩
theorem zt8 (i : T.za) (hl : i.stops.l.length ≤ 300) (left : zg) (L : Int → Prop) (B : Nat) (hL : Lft left L B) :
  ∃ out',qa8 i left = some out' ∧ Lft out' (qbm i.stops.l L i.stops.l.length) 90000 := by
 obtain ⟨o,h1,h2⟩ := zok i hl left L B hL i.stops.l.length 0 ⟨[],0⟩ (by omega) (q14 (qk3 _) fun q => by simp [qbm])
 refine ⟨o, ?_,h2⟩
 unfold qa8
 simp only [Int.natCast_zero] at h1
 simp [h1]
theorem zfs (l : Sl T.Stop) (b : Nat) (a : Nat) : a < l.l.length → q69 (l,(a : Int),(b : Int)) = some (if b ∈ zi l.l a then .inl true else .inr ()) := by
 induction a using Nat.strongRecOn with
 | _ a ih =>
 intro ha
 have hy := zq ha
 have hy2 : l.l[a]? = some l.l[a] := by simp [ha]
 generalize l.l[a] = y at hy hy2
 rw [q69.eq_1,if_pos (by simp; omega)]
 simp only [hy,Option.bind_eq_bind,Option.bind_some]
 by_cases h0 : 0 ≤ y.up
 ·rw [if_pos (by simpa using h0)]
  by_cases h1 : y.up < a
  ·rw [if_pos (by simpa using h1)]
   obtain ⟨p,hp⟩ : ∃ p : Nat,y.up = p := ⟨y.up.toNat,by omega⟩
   rw [q0d hy2 hp (by omega),hp]
   by_cases e : p = b
   ·subst e
    simp
   ·have e2 : ((p : Int) == (b : Int)) = false := by simp; omega
    have e3 : ¬ b = p := fun h => e h.symm
    rw [e2,ih p (by omega) (by omega)]
    simp [e3]
  ·rw [if_neg (by simpa using h1),q64 hy2 (by omega)]
   simp
 ·rw [if_neg (by simpa using h0),q64 hy2 (by omega)]
  simp
theorem qu4 (l : Sl T.Stop) (a b : Nat) (ha : a < l.l.length) : qb7 l (a : Int) (b : Int) = some (decide (b ∈ zi l.l a)) := by
 unfold qb7
 rw [zfs l b a ha]
 by_cases h : b ∈ zi l.l a <;> simp [h]
theorem qr6 (n : Int) (l : List Int) (hl : l.length < 1000) : ∀ (d k : Nat),k + d = l.length → q4b (n,(k : Int),l) = some (if n ∈ l.drop k then .inl true else .inr ()) := by
 intro d
 induction d with
 | zero =>
  intro k hk
  rw [q4b.eq_1,if_neg (by simp; omega),List.drop_of_length_le (by omega)]
  simp
 | succ d ih =>
  intro k hk
  have hkl : k < l.length := by omega
  have hx := zq hkl
  have hd : l.drop k = l[k] :: l.drop (k + 1) := List.drop_eq_getElem_cons hkl
  generalize l[k] = x at hx hd
  have hw : IntKind.i64.wrap ((k : Int) + 1) = ((k + 1 : Nat) : Int) := wy (by omega)
  rw [q4b.eq_1,if_pos (by simp; omega),hd]
  simp only [hx,Option.bind_eq_bind,Option.bind_some,hw]
  by_cases e : x = n
  ·simp [e]
  ·have e2 : ¬ n = x := fun h => e h.symm
   rw [if_neg (by simpa using e),ih (k + 1) (by omega)]
   simp [e2]
theorem qg8 (n : Int) (l : List Int) (hl : l.length < 1000) : q7c n l = some (decide (n ∈ l)) := by
 unfold q7c
 have := qr6 n l hl l.length 0 (by omega)
 simp only [Int.natCast_zero,List.drop_zero] at this
 rw [this]
 by_cases h : n ∈ l <;> simp [h]
theorem qwt (l : Sl T.Stop) (n : Int) (a : Nat) (ha : a < l.l.length) (told : List Int) (hl : l.l.length ≤ 300) : ∀ (d k : Nat),k + d = l.l.length →
  ∃ t : Bool,q37 (l,n,(a : Int),(k : Int),told) = some (if t then .inr () else .inl false) ∧ (t = true ↔ ∀ b y,k ≤ b → l.l[b]? = some y → y.n = n → b ∉ zi l.l a) := by
 intro d
 induction d with
 | zero =>
  intro k hk
  refine ⟨true, ?_, ?_⟩
  ·rw [q37.eq_1,if_neg (by simp; omega)]; rfl
  ·simp only [true_iff]
   intro b y hb hy
   have := (List.getElem?_eq_some_iff.1 hy).1
   omega
 | succ d ih =>
  intro k hk
  have hkl : k < l.l.length := by omega
  have hx := zq hkl
  have hx2 : l.l[k]? = some l.l[k] := by simp [hkl]
  generalize l.l[k] = x at hx hx2
  have hw : IntKind.i64.wrap ((k : Int) + 1) = ((k + 1 : Nat) : Int) := wy (by omega)
  rw [q37.eq_1,if_pos (by simp; omega)]
  simp only [hx,qu4 l a k ha,Option.bind_eq_bind,Option.bind_some,hw]
  obtain ⟨t,h1,h2⟩ := ih (k + 1) (by omega)
  have hrest : ∀ (hno : x.n = n → k ∉ zi l.l a),(t = true ↔ ∀ b y,k ≤ b → l.l[b]? = some y → y.n = n → b ∉ zi l.l a) := by
   intro hno
   rw [h2]
   constructor
   ·intro h b y hb hy hn
    by_cases e : b = k
    ·subst e
     rw [hx2] at hy
     cases hy
     exact hno hn
    ·exact h b y (by omega) hy hn
   ·intro h b y hb hy hn
    exact h b y (by omega) hy hn
  by_cases e : x.n = n
  ·rw [if_pos (by simpa using e)]
   by_cases hm : k ∈ zi l.l a
   ·refine ⟨false,by simp [hm], ?_⟩
    constructor
    ·intro h; cases h
    ·intro h; exact absurd hm (h k x (Nat.le_refl _) hx2 e)
   ·exact ⟨t,by simpa [hm] using h1,hrest fun _ => hm⟩
  ·rw [if_neg (by simpa using e)]
   exact ⟨t,h1,hrest fun h => absurd h e⟩
theorem zdq (l : Sl T.Stop) (n : Int) (told : List Int) (ht : told.length < 1000) (hl : l.l.length ≤ 300) : ∀ (d k : Nat),k + d = l.l.length →
  ∃ t : Bool,q2c (l,n,(k : Int),told) = some (if t then .inr () else .inl false) ∧
   (t = true ↔ ∀ a x b y,k ≤ a → l.l[a]? = some x → x.n ≠ n → x.n ∉ told → l.l[b]? = some y → y.n = n → b ∉ zi l.l a) := by
 intro d
 induction d with
 | zero =>
  intro k hk
  refine ⟨true, ?_, ?_⟩
  ·rw [q2c.eq_1,if_neg (by simp; omega)]; rfl
  ·simp only [true_iff]
   intro a x b y ha hx
   have := (List.getElem?_eq_some_iff.1 hx).1
   omega
 | succ d ih =>
  intro k hk
  have hkl : k < l.l.length := by omega
  have hx := zq hkl
  have hx2 : l.l[k]? = some l.l[k] := by simp [hkl]
  generalize l.l[k] = x at hx hx2
  have hw : IntKind.i64.wrap ((k : Int) + 1) = ((k + 1 : Nat) : Int) := wy (by omega)
  rw [q2c.eq_1,if_pos (by simp; omega)]
  simp only [hx,qg8 x.n told ht,Option.bind_eq_bind,Option.bind_some,hw]
  obtain ⟨t,h1,h2⟩ := ih (k + 1) (by omega)
  have hrest : ∀ (hno : x.n ≠ n → x.n ∉ told → ∀ b y,l.l[b]? = some y → y.n = n → b ∉ zi l.l k),(t = true ↔ ∀ a x b y,k ≤ a → l.l[a]? = some x → x.n ≠ n → x.n ∉ told → l.l[b]? = some y → y.n = n → b ∉ zi l.l a) := by
   intro hno
   rw [h2]
   constructor
   ·intro h a z b y ha hz h3 h4
    by_cases e : a = k
    ·subst e
     rw [hx2] at hz
     cases hz
     exact hno h3 h4 b y
    ·exact h a z b y (by omega) hz h3 h4
   ·intro h a z b y ha
    exact h a z b y (by omega)
  by_cases e : x.n = n
  ·rw [if_pos (by simpa using e)]
   exact ⟨t,h1,hrest fun h => absurd e h⟩
  ·rw [if_neg (by simpa using e)]
   by_cases hm : x.n ∈ told
   ·exact ⟨t,by simpa [hm] using h1,hrest fun _ h => absurd hm h⟩
   ·obtain ⟨t2,h3,h4⟩ := qwt l n k hkl told hl l.l.length 0 (by omega)
    simp only [Int.natCast_zero] at h3
    cases t2 with
    | true =>
     refine ⟨t,by simpa [hm,h3] using h1,hrest fun _ _ b y => h4.1 rfl b y (Nat.zero_le _)⟩
    | false =>
     refine ⟨false,by simp [hm,h3], ?_⟩
     constructor
     ·intro h; cases h
     ·intro h
      have := h4.2 fun b y _ => h k x b y (Nat.le_refl _) hx2 e hm
      cases this
theorem zrf (l : Sl T.Stop) (n : Int) (told : List Int) (ht : told.length < 1000) (hl : l.l.length ≤ 300) :
  ∃ t : Bool,q86 l n told = some t ∧ (t = true ↔ ∀ a x b y,l.l[a]? = some x → x.n ≠ n → x.n ∉ told → l.l[b]? = some y → y.n = n → b ∉ zi l.l a) := by
 obtain ⟨t,h1,h2⟩ := zdq l n told ht hl l.l.length 0 (by omega)
 simp only [Int.natCast_zero] at h1
 refine ⟨t, ?_,h2.trans ⟨fun h a x b y => h a x b y (Nat.zero_le _),fun h a x b y _ => h a x b y⟩⟩
 unfold q86
 rw [h1]
 cases t <;> rfl
end Go.Proofs.YtdhgdeelagmbpaaGreat
set_option linter.unusedSimpArgs false
set_option linter.unusedVariables false
namespace Go.Proofs.YtdhgdeelagmbpaaGreat
open Go Go.Gm
open Classical in
noncomputable def frB (l : List T.Stop) (told : List Int) (n : Int) : Bool :=
 decide (∀ a x b y,l[a]? = some x → x.n ≠ n → x.n ∉ told → l[b]? = some y → y.n = n → b ∉ zi l a)
theorem free_eq (l : Sl T.Stop) (n : Int) (told : List Int) (ht : told.length < 1000) (hl : l.l.length ≤ 300) : q86 l n told = some (frB l.l told n) := by
 obtain ⟨t,h1,h2⟩ := zrf l n told ht hl
 rw [h1]
 congr 1
 rw [Bool.eq_iff_iff,h2]
 simp only [frB,decide_eq_true_eq]
theorem z3i (i : T.za) (hl : i.stops.l.length ≤ 300) : ∀ (d k : Nat) (all_ : Sl Int),k + d = i.stops.l.length → bu all_.l → (∀ x,x ∈ all_.l ↔ x ∈ (i.stops.l.take k).map (·.n)) → all_.l.length ≤ k →
  ∃ r,q4m (all_,(k : Int),i) = some r ∧ bu r.l ∧ (∀ x,x ∈ r.l ↔ x ∈ i.stops.l.map (·.n)) ∧ r.l.length ≤ 300 := by
 intro d
 induction d with
 | zero =>
  intro k all_ hk h1 h2 h3
  obtain rfl : k = i.stops.l.length := by omega
  rw [List.take_length] at h2
  exact ⟨all_,by rw [q4m.eq_1,if_neg (by simp)],h1,h2,by omega⟩
 | succ d ih =>
  intro k all_ hk h1 h2 h3
  have hkl : k < i.stops.l.length := by omega
  have hx := zq hkl
  have ht : i.stops.l.take (k + 1) = i.stops.l.take k ++ [i.stops.l[k]] := by rw [List.take_append_getElem]
  generalize i.stops.l[k] = x at hx ht
  have hw : IntKind.i64.wrap ((k : Int) + 1) = ((k + 1 : Nat) : Int) := wy (by omega)
  obtain ⟨o,g1,g2,g3,g4⟩ := zs4 all_ x.n (by omega) h1
  rw [q4m.eq_1,if_pos (by simp; omega)]
  simp only [hx,g1,Option.bind_eq_bind,Option.bind_some,hw]
  refine ih (k + 1) o (by omega) g2 (fun q => ?_) (by omega)
  rw [g3,h2,ht]
  simp [or_comm]
theorem zly (all_ : Sl Int) (i : T.za) (told : List Int) (ht : told.length < 1000) (hl : i.stops.l.length ≤ 300) (ha : all_.l.length ≤ 1000) (next : Int) : ∀ (d k : Nat),k + d = all_.l.length →
  q0i (all_,next,false,(k : Int),i,told) = some (match (all_.l.drop k).find? (fun x => decide (x ∉ told) && frB i.stops.l told x) with | some x => (x,true) | none => (next,false)) := by
 intro d
 induction d with
 | zero =>
  intro k hk
  rw [q0i.eq_1,if_neg (by simp; omega),List.drop_of_length_le (by omega)]
  rfl
 | succ d ih =>
  intro k hk
  have hkl : k < all_.l.length := by omega
  have hx := zq hkl
  have hd : all_.l.drop k = all_.l[k] :: all_.l.drop (k + 1) := List.drop_eq_getElem_cons hkl
  generalize all_.l[k] = x at hx hd
  have hw : IntKind.i64.wrap ((k : Int) + 1) = ((k + 1 : Nat) : Int) := wy (by omega)
  have hend : q0i (all_,x,true,(k : Int) + 1,i,told) = some (x,true) := by
   rw [q0i.eq_1,if_neg (by simp)]
  rw [q0i.eq_1,if_pos (by simp; omega),hd,List.find?_cons]
  simp only [hx,qg8 x told ht,free_eq i.stops x told ht hl,Option.bind_eq_bind,Option.bind_some,hw]
  by_cases hm : x ∈ told
  ·simp only [hm,decide_true,Bool.not_true,Bool.false_eq_true,if_false,not_true_eq_false,decide_false,Bool.false_and]
   exact ih (k + 1) (by omega)
  ·cases hf : frB i.stops.l told x with
   | true => simp [hm,hend]
   | false =>
    simp only [hm,decide_false,Bool.not_false,if_true,not_false_eq_true,decide_true,Bool.and_false,Bool.false_eq_true,if_false]
    exact ih (k + 1) (by omega)
theorem qz3 (all_ : Sl Int) (i : T.za) (told : List Int) (ht : told.length < 1000) (ha : all_.l.length ≤ 1000) (next : Int) : ∀ (d k : Nat),k + d = all_.l.length →
  q04 (all_,next,false,(k : Int),i,told) = some (match (all_.l.drop k).find? (fun x => decide (x ∉ told)) with | some x => x | none => next) := by
 intro d
 induction d with
 | zero =>
  intro k hk
  rw [q04.eq_1,if_neg (by simp; omega),List.drop_of_length_le (by omega)]
  rfl
 | succ d ih =>
  intro k hk
  have hkl : k < all_.l.length := by omega
  have hx := zq hkl
  have hd : all_.l.drop k = all_.l[k] :: all_.l.drop (k + 1) := List.drop_eq_getElem_cons hkl
  generalize all_.l[k] = x at hx hd
  have hw : IntKind.i64.wrap ((k : Int) + 1) = ((k + 1 : Nat) : Int) := wy (by omega)
  have hend : q04 (all_,x,true,(k : Int) + 1,i,told) = some x := by
   rw [q04.eq_1,if_neg (by simp)]
  rw [q04.eq_1,if_pos (by simp; omega),hd,List.find?_cons]
  simp only [hx,qg8 x told ht,Option.bind_eq_bind,Option.bind_some,hw]
  by_cases hm : x ∈ told
  ·simp only [hm,decide_true,Bool.not_true,Bool.false_eq_true,if_false,not_true_eq_false,decide_false]
   exact ih (k + 1) (by omega)
  ·simp [hm,hend]
def gu (K : List Int) (p : Int → Bool) : Int := match K.find? p with | some x => x | none => K.headD 0
theorem znt (all_ : Sl Int) (i : T.za) (told : List Int) (ht : told.length < 1000) (hl : i.stops.l.length ≤ 300) (ha : all_.l.length ≤ 1000) :
  ((q0i (all_,0,false,0,i,told)).bind fun v3 => q04 (all_,v3.1,v3.2,0,i,told)) = some (gu (all_.l.filter fun x => decide (x ∉ told)) (frB i.stops.l told)) := by
 have h4 := zly all_ i told ht hl ha 0 all_.l.length 0 (by omega)
 have h6 := qz3 all_ i told ht ha 0 all_.l.length 0 (by omega)
 simp only [Int.natCast_zero,List.drop_zero] at h4 h6
 rw [h4]
 unfold gu
 have hp : (all_.l.filter fun x => decide (x ∉ told)).find? (frB i.stops.l told) = all_.l.find? (fun x => decide (x ∉ told) && frB i.stops.l told x) := by
  rw [List.find?_filter]
  congr 1
  funext a
  by_cases h : a ∈ told <;> cases hh : frB i.stops.l told a <;> simp [h]
 rw [hp]
 cases hf : all_.l.find? (fun x => decide (x ∉ told) && frB i.stops.l told x) with
 | some x =>
  simp only [Option.bind_some]
  rw [q04.eq_1,if_neg (by simp)]
 | none =>
  simp only [Option.bind_some,h6]
  rw [← List.head?_filter]
  cases all_.l.filter fun x => decide (x ∉ told) <;> rfl
theorem zad (s : Sl Int) (m : zg) (hl : s.l.length < 1000) : ∀ (d k : Nat),k + d = s.l.length →
  (∃ (j : Nat) (x : Int),q3o (s,(s.l.length : Int),(k : Int),m) = some (.inl (j : Int)) ∧ s.l[j]? = some x ∧ (s.l.drop k).find? (fun n => je m n == 0) = some x) ∨
  (q3o (s,(s.l.length : Int),(k : Int),m) = some (.inr ()) ∧ (s.l.drop k).find? (fun n => je m n == 0) = none) := by
 intro d
 induction d with
 | zero =>
  intro k hk
  refine .inr ⟨?_, ?_⟩
  ·rw [q3o.eq_1,if_neg (by simp; omega)]
  ·rw [List.drop_of_length_le (by omega)]; rfl
 | succ d ih =>
  intro k hk
  have hkl : k < s.l.length := by omega
  have hx := zq hkl
  have hx2 : s.l[k]? = some s.l[k] := by simp [hkl]
  have hd : s.l.drop k = s.l[k] :: s.l.drop (k + 1) := List.drop_eq_getElem_cons hkl
  generalize s.l[k] = x at hx hd hx2
  have hw : IntKind.i64.wrap ((k : Int) + 1) = ((k + 1 : Nat) : Int) := wy (by omega)
  rw [q3o.eq_1,if_pos (by simp; omega),hd,List.find?_cons]
  simp only [hx,qe8,Option.bind_eq_bind,Option.bind_some,hw]
  cases hm : je m x == 0 with
  | true => exact .inl ⟨k,x,rfl,hx2,rfl⟩
  | false => simpa using ih (k + 1) (by omega)
theorem qs9 {K : List Int} (h : K ≠ []) (p : Int → Bool) : gu K p ∈ K := by
 unfold gu
 cases hf : K.find? p with
 | some x => exact List.mem_of_find?_eq_some hf
 | none => cases K with
  | nil => exact absurd rfl h
  | cons a r => exact List.mem_cons_self
theorem zfg (K : List Int) (m : zg) (hK : K ≠ []) (hl : K.length < 1000) : ∃ v9,qco ⟨K.isEmpty,K⟩ m = some v9 ∧ qd K (if v9 > (0 : Int) then v9 else (0 : Int)) = some (gu K fun n => je m n == 0) := by
 unfold qco
 have h := zad ⟨K.isEmpty,K⟩ m hl K.length 0 (by simp)
 simp only [Int.natCast_zero,List.drop_zero] at h
 rcases h with ⟨j,x,h1,h2,h3⟩ | ⟨h1,h2⟩
 ·refine ⟨(j : Int),by simp [h1], ?_⟩
  have e : (if (j : Int) > 0 then (j : Int) else 0) = (j : Int) := by split <;> omega
  rw [e]
  unfold gu
  rw [h3]
  simpa [qd] using h2
 ·refine ⟨-1,by simp [h1], ?_⟩
  unfold gu
  rw [h2]
  cases K with
  | nil => exact absurd rfl hK
  | cons a r => rfl
theorem zd2 (l : List T.Stop) (told : List Int) (hold : zg) (B : Nat) (h : Lft hold (qbm l (fun x => x ∈ l.map (·.n) ∧ x ∉ told) l.length) B) : (fun n => je hold n == 0) = frB l told := by
 funext n
 rw [Bool.eq_iff_iff,beq_iff_eq,(h.get n).2.2]
 simp only [frB,decide_eq_true_eq]
 constructor
 ·intro hn a x b y h1 h2 h3 h4 h5 h6
  exact hn ⟨a,x,b,y,(List.getElem?_eq_some_iff.1 h1).1,h1,⟨List.mem_map.2 ⟨x,List.mem_of_getElem? h1,rfl⟩,h3⟩,h6,h4,h5,fun e => h2 e.symm⟩
 ·rintro hn ⟨a,x,b,y,_,h1,⟨_,h3⟩,h6,h4,h5,h2⟩
  exact hn a x b y h1 (fun e => h2 e.symm) h3 h4 h5 h6
end Go.Proofs.YtdhgdeelagmbpaaGreat
set_option linter.unusedSimpArgs false
set_option linter.unusedVariables false
namespace Go.Proofs.YtdhgdeelagmbpaaGreat
open Go Go.Gm
def xq (A out : List Int) : List Int := A.filter fun x => decide (x ∉ out)
noncomputable def gm (l : List T.Stop) (A : List Int) : Nat → List Int → List Int
 | 0,out => out
 | d + 1,out => gm l A d (out ++ [gu (xq A out) (frB l out)])
theorem qc9 {A out : List Int} {x : Int} : x ∈ xq A out ↔ x ∈ A ∧ x ∉ out := by simp [xq]
theorem left_step {A out : List Int} {d : Nat} (hA : bu A) (hd : (xq A out).length = d + 1) (p : Int → Bool) : gu (xq A out) p ∈ xq A out ∧ (xq A (out ++ [gu (xq A out) p])).length = d := by
 generalize hKe : xq A out = K at hd
 have hKr : bu K := by rw [← hKe]; exact List.Pairwise.filter _ hA
 have hKnd : K.Nodup := hKr.imp fun h => by omega
 have hKne : K ≠ [] := fun e => by rw [e] at hd; simp at hd
 have hxm := qs9 hKne p
 refine ⟨hxm, ?_⟩
 generalize gu K p = x at hxm
 have : xq A (out ++ [x]) = K.erase x := by
  rw [hKnd.erase_eq_filter,← hKe,xq,xq,List.filter_filter]
  congr 1
  funext y
  by_cases h1 : y ∈ out <;> by_cases h2 : y = x <;> simp [h1,h2]
 rw [this,List.length_erase_of_mem hxm]
 omega
theorem z0b (i : T.za) (hl : i.stops.l.length ≤ 300) (hn : ∀ x ∈ i.stops.l.map (·.n),inI x) (A : Sl Int) (hA : bu A.l) (hAm : ∀ x,x ∈ A.l ↔ x ∈ i.stops.l.map (·.n)) (hAl : A.l.length ≤ 300) :
  ∀ (d : Nat) (left : zg) (out : List Int),Lft left (fun x => x ∈ i.stops.l.map (·.n) ∧ x ∉ out) 300 → (xq A.l out).length = d → out.length + d = A.l.length →
  ∃ m,q4n (i,left,out) = some (m,gm i.stops.l A.l d out) ∧ q46 (A,i,out) = some (gm i.stops.l A.l d out) := by
 intro d
 induction d with
 | zero =>
  intro left out h hd ho
  have hK : xq A.l out = [] := List.length_eq_zero_iff.1 hd
  have he : left.es = [] := by
   cases hc : left.es with
   | nil => rfl
   | cons e r =>
    have : e.1 ∈ jk left := by simp [jk,hc]
    have h2 := (h.keys _).1 this
    have : e.1 ∈ xq A.l out := qc9.2 ⟨(hAm _).2 h2.1,h2.2⟩
    rw [hK] at this
    simp at this
  refine ⟨left, ?_, ?_⟩
  ·rw [q4n.eq_1,if_neg (by simp [he])]; rfl
  ·rw [q46.eq_1,if_neg (by simp; omega)]; rfl
 | succ d ih =>
  intro left out h hd ho
  obtain ⟨hxm,hK2⟩ := left_step hA hd (frB i.stops.l out)
  rw [gm]
  have hKm : ∀ x,x ∈ xq A.l out ↔ x ∈ i.stops.l.map (·.n) ∧ x ∉ out := fun x => by rw [qc9,hAm]
  have hKr : bu (xq A.l out) := List.Pairwise.filter _ hA
  have hKne : xq A.l out ≠ [] := fun e => by rw [e] at hd; simp at hd
  have hKf : (A.l.filter fun x => decide (x ∉ out)) = xq A.l out := rfl
  have hr := znt A i out (by omega) hl (by omega)
  rw [hKf] at hr
  generalize xq A.l out = K at hd hxm hK2 hKm hKr hKne hr
  have hsk : q66 left = some K := by
   rw [zci h.ok (fun k hk => hn k ((h.keys k).1 hk).1) (by have := h.len; omega)]
   congr 1
   refine qp0 (zsi h.ok.kn) hKr fun x => ?_
   rw [hKm,← h.keys]
   exact (qa2 _).mem_iff
  have hes : 0 < left.es.length := by
   cases hc : left.es with
   | cons => simp
   | nil =>
    obtain ⟨x,hx⟩ := List.exists_mem_of_ne_nil _ hKne
    have := (h.keys x).2 ((hKm x).1 hx)
    simp [jk,hc] at this
  obtain ⟨hold,hw1,hw2⟩ := zt8 i hl left _ 300 h
  obtain ⟨v9,h9,h10⟩ := zfg K hold hKne (by omega)
  rw [zd2 _ out hold _ hw2] at h10
  generalize gu K (frB i.stops.l out) = x at h10 hr hxm hK2
  have hroom : qj (out.length + 1) 8 = true := qk5 (by omega) (by omega)
  have hdel := qvb h.ok x
  have hL : Lft (mf left x) (fun y => y ∈ i.stops.l.map (·.n) ∧ y ∉ out ++ [x]) 300 := by
   refine ⟨hdel.1,fun y => ?_,fun e he => h.pos e (zgk he),by have := h.len; omega⟩
   rw [hdel.2.1,h.keys]
   simp [and_assoc]
  obtain ⟨m,g1,g2⟩ := ih (mf left x) (out ++ [x]) hL hK2 (by simp; omega)
  refine ⟨m, ?_, ?_⟩
  ·rw [q4n.eq_1,if_pos (by simpa using hes)]
   simp only [qex,hsk,hw1,h9,h10,Option.bind_eq_bind,Option.bind_some,hroom,if_true]
   exact g1
  ·rw [q46.eq_1,if_pos (by simp; omega)]
   rw [Option.bind_eq_some_iff] at hr
   obtain ⟨v3,q1,q2⟩ := hr
   simp only [q1,q2,Option.bind_eq_bind,Option.bind_some,hroom,if_true]
   exact g2
theorem z8z (i : T.za) (hl : i.stops.l.length ≤ 300) (hn : ∀ x ∈ i.stops.l.map (·.n),inI x) : ∃ A : List Int,bu A ∧ (∀ x,x ∈ A ↔ x ∈ i.stops.l.map (·.n)) ∧ A.length ≤ 300 ∧
  qaw i = some ⟨(gm i.stops.l A A.length []).isEmpty,gm i.stops.l A A.length []⟩ ∧ qac i = some ⟨(gm i.stops.l A A.length []).isEmpty,gm i.stops.l A A.length []⟩ := by
 obtain ⟨m,p1,p2⟩ := zny i hl i.stops.l.length 0 ⟨[],0⟩ (by omega) (q14 (qk3 _) fun q => by simp)
 obtain ⟨A,q1,q2,q3,q4⟩ := z3i i hl i.stops.l.length 0 ⟨true,[]⟩ (by omega) List.Pairwise.nil (fun x => by simp) (by simp)
 simp only [Int.natCast_zero] at p1 q1
 obtain ⟨m2,g1,g2⟩ := z0b i hl hn A q2 q3 q4 A.l.length m [] (q14 p2 fun q => by simp) (by simp [xq]) (by simp)
 refine ⟨A.l,q2,q3,q4, ?_, ?_⟩
 ·unfold qaw; simp [p1,g1]
 ·unfold qac; simp [q1,g2]
theorem z7v {H : Int → Int → Prop} (hH : ∀ n,¬ Relation.TransGen H n n) : ∀ (d : Nat) (K : List Int),K.length = d → K ≠ [] → ∃ n ∈ K,∀ m ∈ K,¬ H n m := by
 intro d
 induction d using Nat.strongRecOn with
 | _ d ih =>
 intro K hd hK
 obtain ⟨n,hn⟩ := List.exists_mem_of_ne_nil K hK
 by_cases h : ∀ m ∈ K,¬ H n m
 ·exact ⟨n,hn,h⟩
 obtain ⟨m,hm⟩ := Classical.not_forall.1 h
 obtain ⟨hm,hnm⟩ := Classical.not_imp.1 hm
 have hnm := Classical.not_not.1 hnm
 classical
 have hlt : (K.filter fun m => decide (Relation.TransGen H n m)).length < K.length := by
  rw [List.length_filter_lt_length_iff_exists]
  exact ⟨n,hn,by simpa using hH n⟩
 obtain ⟨q,q1,q2⟩ := ih _ (by omega) (K.filter fun m => decide (Relation.TransGen H n m)) rfl (by
  intro e
  have : m ∈ K.filter fun m => decide (Relation.TransGen H n m) := List.mem_filter.2 ⟨hm,by simpa using Relation.TransGen.single hnm⟩
  rw [e] at this
  cases this)
 rw [List.mem_filter,decide_eq_true_eq] at q1
 refine ⟨q,q1.1,fun r hr hqr => q2 r ?_ hqr⟩
 rw [List.mem_filter,decide_eq_true_eq]
 exact ⟨hr,q1.2.tail hqr⟩
structure Told (l : List T.Stop) (out : List Int) : Prop where
 nd : out.Nodup
 fr : ∀ (k : Nat) (n : Int),out[k]? = some n → frB l (out.take k) n = true
theorem zpu {H : Int → Int → Prop} (hH : ∀ n,¬ Relation.TransGen H n n) {l : List T.Stop} (hl : ∀ (a b : Nat) (x y : T.Stop),l[a]? = some x → l[b]? = some y → b ∈ zi l a → H y.n x.n) {A : List Int} (hA : bu A) (hAm : ∀ x,x ∈ A ↔ x ∈ l.map (·.n)) :
  ∀ (d : Nat) (out : List Int),(xq A out).length = d → Told l out → Told l (gm l A d out) ∧ ∀ n ∈ A,n ∈ gm l A d out := by
 intro d
 induction d with
 | zero =>
  intro out hd hT
  refine ⟨hT,fun n hn => ?_⟩
  have hK : xq A out = [] := List.length_eq_zero_iff.1 hd
  refine Classical.byContradiction fun h => ?_
  have : n ∈ xq A out := qc9.2 ⟨hn,h⟩
  rw [hK] at this
  cases this
 | succ d ih =>
  intro out hd hT
  obtain ⟨hxm,hK2⟩ := left_step hA hd (frB l out)
  rw [gm]
  refine ih _ hK2 ?_
  have hf : frB l out (gu (xq A out) (frB l out)) = true := by
   obtain ⟨n,n1,n2⟩ := z7v hH _ (xq A out) rfl (fun e => by rw [e] at hd; simp at hd)
   have hn : frB l out n = true := by
    simp only [frB,decide_eq_true_eq]
    intro a x b y ha hne hno hb hyn hab
    refine n2 x.n (qc9.2 ⟨(hAm _).2 (List.mem_map.2 ⟨x,List.mem_of_getElem? ha,rfl⟩),hno⟩) ?_
    rw [← hyn]
    exact hl a b x y ha hb hab
   unfold gu
   cases hc : (xq A out).find? (frB l out) with
   | some x => exact List.find?_some hc
   | none => exact absurd hn (List.find?_eq_none.1 hc n n1)
  generalize gu (xq A out) (frB l out) = x at hxm hf
  refine ⟨?_,fun k n hk => ?_⟩
  ·rw [List.nodup_append]
   refine ⟨hT.nd,by simp,fun a ha b hb => ?_⟩
   rw [List.mem_singleton] at hb
   subst hb
   intro e
   subst e
   exact (qc9.1 hxm).2 ha
  ·by_cases h : k < out.length
   ·rw [List.getElem?_append_left h] at hk
    rw [List.take_append_of_le_length (by omega)]
    exact hT.fr k n hk
   ·rw [List.getElem?_append_right (by omega)] at hk
    have e : k - out.length = 0 := by
     have := (List.getElem?_eq_some_iff.1 hk).1
     simp at this
     omega
    rw [e] at hk
    simp only [List.getElem?_cons_zero,Option.some.injEq] at hk
    rw [show k = out.length by omega,List.take_left,← hk]
    exact hf
end Go.Proofs.YtdhgdeelagmbpaaGreat
set_option linter.unusedSimpArgs false
set_option linter.unusedVariables false
namespace Go.Proofs.YtdhgdeelagmbpaaGreat
open Go Go.Gm
theorem qgg {l : List Int} (h : l.Nodup) {i j : Nat} {x : Int} (hi : l[i]? = some x) (hj : l[j]? = some x) : i = j := by
 obtain ⟨a,ha⟩ := List.getElem?_eq_some_iff.1 hi
 obtain ⟨b,hb⟩ := List.getElem?_eq_some_iff.1 hj
 exact (List.getElem_inj h).1 (ha.trans hb.symm)
theorem z98 (ns : Sl Int) (hl : ns.l.length ≤ 300) (hnd : ns.l.Nodup) (i : T.za) (a : Nat) (x : T.Stop) (hx : qd i.stops.l (a : Int) = some x) (j j2 : Nat) (hj : ns.l[j]? = some x.n)
  (hp : x.up < 0 ∨ ∃ y,qd i.stops.l x.up = some y ∧ ns.l[j2]? = some y.n) : ∀ (d k : Nat),k + d = ns.l.length →
  uw (ns,(a : Int),(if j < k then (j : Int) else -1),(if 0 ≤ x.up ∧ j2 < k then (j2 : Int) else -1),(k : Int),i) = some (.inr ((j : Int),(if 0 ≤ x.up then (j2 : Int) else -1))) := by
 have hjl := (List.getElem?_eq_some_iff.1 hj).1
 intro d
 induction d with
 | zero =>
  intro k hk
  rw [uw.eq_1,if_neg (by simp; omega),if_pos (by omega)]
  rcases hp with hp | ⟨y,_,hy⟩
  ·rw [if_neg (by omega),if_neg (by omega)]
  ·have := (List.getElem?_eq_some_iff.1 hy).1
   by_cases h0 : 0 ≤ x.up
   ·rw [if_pos ⟨h0,by omega⟩,if_pos h0]
   ·rw [if_neg (by omega),if_neg (by omega)]
 | succ d ih =>
  intro k hk
  have hkl : k < ns.l.length := by omega
  have hz := zq hkl
  have hz2 : ns.l[k]? = some ns.l[k] := by simp [hkl]
  generalize ns.l[k] = z at hz hz2
  have ih := ih (k + 1) (by omega)
  have hzj : z = x.n ↔ k = j := ⟨fun e => qgg hnd (e ▸ hz2) hj,fun e => by subst e; rw [hz2] at hj; exact Option.some.inj hj⟩
  have hmine : (if z = x.n then (k : Int) else (if j < k then (j : Int) else -1)) = (if j < k + 1 then (j : Int) else -1) := by
   by_cases e : k = j
   ·subst e
    rw [if_pos (hzj.2 rfl),if_pos (by omega)]
   ·rw [if_neg fun h => e (hzj.1 h)]
    by_cases h : j < k
    ·rw [if_pos h,if_pos (by omega)]
    ·rw [if_neg h,if_neg (by omega)]
  rw [uw.eq_1,if_pos (by simp; omega),wy (by omega)]
  simp only [hz,hx,Option.bind_eq_bind,Option.bind_some]
  have hgo : ∀ (m : Int),m = (if j < k + 1 then (j : Int) else -1) → (if (decide (x.up ≥ (0 : Int))) = true then (qd i.stops.l x.up).bind fun x10 => if (z == x10.n) = true then uw (ns,(a : Int),m,(k : Int),((k + 1 : Nat) : Int),i) else uw (ns,(a : Int),m,(if 0 ≤ x.up ∧ j2 < k then (j2 : Int) else -1),((k + 1 : Nat) : Int),i) else uw (ns,(a : Int),m,(if 0 ≤ x.up ∧ j2 < k then (j2 : Int) else -1),((k + 1 : Nat) : Int),i)) = some (.inr ((j : Int),(if 0 ≤ x.up then (j2 : Int) else -1))) := by
   intro m hm
   subst hm
   have keep : ¬ (0 ≤ x.up ∧ k = j2) → (if 0 ≤ x.up ∧ j2 < k + 1 then (j2 : Int) else -1) = (if 0 ≤ x.up ∧ j2 < k then (j2 : Int) else -1) := by
    intro h
    by_cases h1 : 0 ≤ x.up ∧ j2 < k
    ·rw [if_pos h1,if_pos (by omega)]
    ·rw [if_neg h1,if_neg (by omega)]
   rcases hp with hp | ⟨y,hy1,hy2⟩
   ·rw [if_neg (c := decide (x.up ≥ 0) = true) (by simp; omega),← keep (by omega)]
    exact ih
   ·by_cases h0 : 0 ≤ x.up
    ·rw [if_pos (c := decide (x.up ≥ 0) = true) (by simp; omega),hy1]
     simp only [Option.bind_some]
     by_cases e : k = j2
     ·subst e
      rw [hz2] at hy2
      rw [if_pos (c := (z == y.n) = true) (by simpa using Option.some.inj hy2)]
      rw [show (if 0 ≤ x.up ∧ k < k + 1 then (k : Int) else -1) = (k : Int) from if_pos ⟨h0,by omega⟩] at ih
      exact ih
     ·rw [if_neg (c := (z == y.n) = true) (by simp only [beq_iff_eq]; exact fun h => e (qgg hnd (h ▸ hz2) hy2)),← keep (by omega)]
      exact ih
    ·rw [if_neg (c := decide (x.up ≥ 0) = true) (by simp; omega),← keep (by omega)]
     exact ih
  by_cases e : k = j
  ·rw [if_pos (by simpa using hzj.2 e),if_neg (c := _ = true) (by simp; omega)]
   exact hgo _ (by rw [← hmine,if_pos (hzj.2 e)])
  ·rw [if_neg (by simp only [beq_iff_eq]; exact fun h => e (hzj.1 h))]
   exact hgo _ (by rw [← hmine,if_neg fun h => e (hzj.1 h)])
theorem zc9 (ns : Sl Int) (hl : ns.l.length ≤ 300) (hnd : ns.l.Nodup) (i : T.za) (hil : i.stops.l.length ≤ 300)
  (hall : ∀ (a : Nat) (x : T.Stop),i.stops.l[a]? = some x → ∃ j j2 : Nat,ns.l[j]? = some x.n ∧ (x.up < 0 ∨ ∃ y,qd i.stops.l x.up = some y ∧ ns.l[j2]? = some y.n ∧ j < j2)) :
  ∀ (d a : Nat),a + d = i.stops.l.length → q5g (ns,(a : Int),i) = some (.inr ()) := by
 intro d
 induction d with
 | zero =>
  intro a hd
  rw [q5g.eq_1,if_neg (by simp; omega)]
 | succ d ih =>
  intro a hd
  have hal : a < i.stops.l.length := by omega
  have hx := zq hal
  have hx2 : i.stops.l[a]? = some i.stops.l[a] := by simp [hal]
  generalize i.stops.l[a] = x at hx hx2
  obtain ⟨j,j2,hj,hp⟩ := hall a x hx2
  have h2 := z98 ns hl hnd i a x hx j j2 hj (hp.imp id fun ⟨y,h1,h2,_⟩ => ⟨y,h1,h2⟩) ns.l.length 0 (by omega)
  simp only [Int.natCast_zero,Nat.not_lt_zero,and_false,if_false] at h2
  rw [q5g.eq_1,if_pos (by simp; omega),wy (by omega)]
  simp only [h2,hx,Option.bind_eq_bind,Option.bind_some]
  rw [if_neg (by simp),if_neg ?_]
  ·exact ih (a + 1) (by omega)
  ·simp only [Bool.and_eq_true,decide_eq_true_eq,not_and]
   intro h0
   rcases hp with hp | ⟨y,_,_,hjj⟩
   ·omega
   ·rw [if_pos (by omega)]
    omega
theorem zf3 {a : Bytes} {st : List T.Stop} (h : qal a st) (at_ : Int) : ∃ H : Int → Int → Prop,(∀ n,¬ Relation.TransGen H n n) ∧
  (∀ (p q : Nat) (x y : T.Stop),(st.map (uu at_))[p]? = some x → (st.map (uu at_))[q]? = some y → q ∈ zi (st.map (uu at_)) p → H y.n x.n) ∧ ∀ x ∈ (st.map (uu at_)).map (·.n),inI x := by
 obtain ⟨H,hL,hH⟩ := h.lay
 refine ⟨H,hH,fun p q x y hx hy hq => ?_,fun x hx => ?_⟩
 ·obtain ⟨z,z1,z2⟩ := (hL.shift at_).holds (L := st.map (uu at_)) (.inl rfl) (fun k x h => by simpa using h) p x hx q (Nat.zero_le _) (by simpa using hq)
  rw [hy] at z1
  cases z1
  exact z2
 ·obtain ⟨y,hy,rfl⟩ := List.mem_map.1 hx
  obtain ⟨z,hz,rfl⟩ := List.mem_map.1 hy
  have := h.n z hz
  show inI z.n
  unfold inI
  omega
theorem qwg (s : Bytes) : qf8 s = some true := by
 unfold qf8
 have hw : aw8 = some true := rfl
 obtain ⟨ok,a,st,h1,h2⟩ := zgo s
 rw [h2 0 (by omega) (by omega)]
 simp only [Option.bind_eq_bind,Option.bind_some]
 cases ok with
 | false => simp [hw]
 | true =>
  have hM := h1 rfl
  simp only [if_true]
  split
  ·simp [hw]
  ·generalize hi : T.za.mk (T.Span.mk 0 (0 + (a.length : Int))) ⟨false,st.map (uu 0)⟩ = i
   have hsl : i.stops.l = st.map (uu 0) := by rw [← hi]
   obtain ⟨H,hH,hanc,hin⟩ := zf3 hM 0
   rw [← hsl] at hanc hin
   have hil : i.stops.l.length ≤ 300 := by rw [hsl,List.length_map]; have := hM.many; omega
   have hidx : q5v i := hi ▸ hM.idx 0
   obtain ⟨A,hA,hAm,hAl,e1,e2⟩ := z8z i hil hin
   obtain ⟨hT,hall⟩ := zpu hH hanc hA hAm A.length [] (by simp [xq]) ⟨List.nodup_nil,fun k n h => by simp at h⟩
   have hlen : (gm i.stops.l A A.length []).length ≤ 300 := by
    have hlt : ∀ (d : Nat) (out : List Int),(gm i.stops.l A d out).length = out.length + d := by
     intro d
     induction d with
     | zero => intro out; rfl
     | succ d ih => intro out; rw [gm,ih]; simp; omega
    rw [hlt]
    simpa using hAl
   simp only [e1,e2,Option.bind_some]
   generalize gm i.stops.l A A.length [] = r at hT hall hlen
   rw [zbp ⟨r.isEmpty,r⟩ ⟨r.isEmpty,r⟩ rfl (by simp; omega)]
   have hin2 : ∀ n ∈ i.stops.l.map (·.n),∃ j : Nat,r[j]? = some n := fun n hn => List.mem_iff_getElem?.1 (hall n ((hAm n).2 hn))
   have := zc9 ⟨r.isEmpty,r⟩ hlen hT.nd i hil (by
    intro k x hx
    obtain ⟨j,hj⟩ := hin2 x.n (List.mem_map.2 ⟨x,List.mem_of_getElem? hx,rfl⟩)
    have hlt := (hidx k x hx).pl.lt
    have hkl := (List.getElem?_eq_some_iff.1 hx).1
    by_cases h0 : x.up < 0
    ·exact ⟨j,0,hj,.inl h0⟩
    ·obtain ⟨p,hp⟩ : ∃ p : Nat,x.up = p := ⟨x.up.toNat,by omega⟩
     have hpl : p < i.stops.l.length := by omega
     have hy := zq hpl
     have hy2 : i.stops.l[p]? = some i.stops.l[p] := by simp [hpl]
     generalize i.stops.l[p] = y at hy hy2
     obtain ⟨j2,hj2⟩ := hin2 y.n (List.mem_map.2 ⟨y,List.mem_of_getElem? hy2,rfl⟩)
     have hpa : p ∈ zi i.stops.l k := by rw [q0d hx hp (by omega)]; exact List.mem_cons_self
     refine ⟨j,j2,hj,.inr ⟨y,by rw [hp]; exact hy,hj2, ?_⟩⟩
     have hHyx := hanc k p x y hx hy2 hpa
     have hne : x.n ≠ y.n := fun e => hH x.n (.single (by rw [← e] at hHyx; exact hHyx))
     have hf := hT.fr j2 y.n hj2
     simp only [frB,decide_eq_true_eq] at hf
     have hmem : x.n ∈ r.take j2 := Classical.byContradiction fun hno => hf k x p y hx hne hno hy2 rfl hpa
     obtain ⟨q,hq⟩ := List.mem_iff_getElem?.1 hmem
     rw [List.getElem?_take] at hq
     split at hq
     ·rename_i hqj
      have := qgg hT.nd hq hj
      omega
     ·cases hq) i.stops.l.length 0 (by omega)
   simp only [Int.natCast_zero] at this
   simp only [Option.bind_some,Bool.not_true,Bool.false_eq_true,if_false,this,hw]
end Go.Proofs.YtdhgdeelagmbpaaGreat
