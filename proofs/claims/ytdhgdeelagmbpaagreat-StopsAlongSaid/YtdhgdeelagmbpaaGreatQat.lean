/-
  The law StopsAlong, on plain data.
-/
import Derived.Test.YtdhgdeelagmbpaaGreatQas
import Derived.Test.YtdhgdeelagmbpaaGreatQah
set_option linter.unusedSimpArgs false
set_option linter.unusedVariables false
namespace Go.Proofs.YtdhgdeelagmbpaaGreat
open Go Go.Gm
theorem qfx {x z : T.Stop} {kids rest : List T.Stop} {k : Nat} (h : (x :: (kids ++ rest))[k]? = some z) : (k = 0 ∧ z = x) ∨ (∃ i,k = i + 1 ∧ kids[i]? = some z) ∨ (∃ i,k = i + 1 + kids.length ∧ rest[i]? = some z) := by
 cases k with
 | zero => simp at h; exact .inl ⟨rfl,h.symm⟩
 | succ k =>
  simp only [List.getElem?_cons_succ] at h
  by_cases hk : k < kids.length
  ·rw [List.getElem?_append_left hk] at h
   exact .inr (.inl ⟨k,rfl,h⟩)
  ·rw [List.getElem?_append_right (by omega)] at h
   exact .inr (.inr ⟨k - kids.length,by omega,h⟩)
theorem qh2 {x z : T.Stop} {kids rest : List T.Stop} {i : Nat} (h : kids[i]? = some z) : (x :: (kids ++ rest))[i + 1]? = some z := by
 have hi := (List.getElem?_eq_some_iff.1 h).1
 simp only [List.getElem?_cons_succ]
 rw [List.getElem?_append_left hi]
 exact h
theorem qj1 {x z : T.Stop} {kids rest : List T.Stop} {i : Nat} (h : rest[i]? = some z) : (x :: (kids ++ rest))[i + 1 + kids.length]? = some z := by
 rw [show i + 1 + kids.length = (kids.length + i) + 1 by omega]
 simp only [List.getElem?_cons_succ]
 rw [List.getElem?_append_right (by omega)]
 simpa using h
structure qu3 (up lo hi : Int) (b : Nat) (l : List T.Stop) (k : Nat) (x : T.Stop) : Prop where
 lo : lo ≤ x.span.frm
 le : x.span.frm ≤ x.span.to
 hi : x.span.to ≤ hi
 ins : x.up = up ∨ ∃ (q : Nat) (y : T.Stop),x.up = ((b + q : Nat) : Int) ∧ q < k ∧ l[q]? = some y ∧ y.span.frm ≤ x.span.frm ∧ x.span.to ≤ y.span.to
 sib : ∀ (j : Nat) (y : T.Stop),j < k → l[j]? = some y → y.up = x.up → y.span.to ≤ x.span.frm
theorem Lay.in_ {H : Int → Int → Prop} {up lo hi : Int} {b : Nat} {l : List T.Stop} (h : Lay H up lo hi b l) : up < b → ∀ (k : Nat) (x : T.Stop),l[k]? = some x → qu3 up lo hi b l k x := by
 induction h with
 | nil => intro _ k x hx; simp at hx
 | cons up lo hi b x kids rest hu h1 h2 hH hk hr ihk ihr =>
  intro hub k z hz
  have ihk := ihk (by omega)
  have ihr := ihr (by omega)
  have hkl : ∀ (i : Nat) (y : T.Stop),kids[i]? = some y → i < kids.length := fun i y h => (List.getElem?_eq_some_iff.1 h).1
  have hrle := hr.le
  have kup : ∀ (i : Nat) (y : T.Stop),kids[i]? = some y → (b : Int) ≤ y.up ∧ y.up < b + 1 + kids.length := by
   intro i y h
   have := hkl i y h
   rcases (ihk i y h).ins with e | ⟨q,w,e,q1,_⟩ <;> omega
  have rup : ∀ (i : Nat) (y : T.Stop),rest[i]? = some y → y.up = up ∨ (b : Int) + 1 + kids.length ≤ y.up := by
   intro i y h
   rcases (ihr i y h).ins with e | ⟨q,w,e,q1,_⟩
   ·exact .inl e
   ·right; omega
  rcases qfx hz with ⟨rfl,rfl⟩ | ⟨i,rfl,hi⟩ | ⟨i,rfl,hi⟩
  ·exact ⟨h1,h2,hrle,.inl hu,fun j y hj => by omega⟩
  ·have q := ihk i z hi
   refine ⟨by have := q.lo; omega,q.le,by have := q.hi; omega, ?_, ?_⟩
   ·rcases q.ins with e | ⟨p,y,e,p1,p2,p3⟩
    ·exact .inr ⟨0,x,by simpa using e,by omega,by simp,q.lo,q.hi⟩
    ·exact .inr ⟨p + 1,y,by rw [e]; omega,by omega,qh2 p2,p3⟩
   ·intro j y hj hy hup
    rcases qfx hy with ⟨rfl,rfl⟩ | ⟨i',rfl,hi'⟩ | ⟨i',rfl,hi'⟩
    ·have := kup i z hi; omega
    ·exact q.sib i' y (by omega) hi' hup
    ·have := hkl i z hi; omega
  ·have q := ihr i z hi
   refine ⟨by have := q.lo; omega,q.le,q.hi, ?_, ?_⟩
   ·rcases q.ins with e | ⟨p,y,e,p1,p2,p3⟩
    ·exact .inl e
    ·exact .inr ⟨p + 1 + kids.length,y,by rw [e]; omega,by omega,qj1 p2,p3⟩
   ·intro j y hj hy hup
    rcases qfx hy with ⟨rfl,rfl⟩ | ⟨i',rfl,hi'⟩ | ⟨i',rfl,hi'⟩
    ·exact q.lo
    ·have a1 := kup i' y hi'
     have a2 := rup i z hi
     omega
    ·exact q.sib i' y (by omega) hi' hup
section
variable {H : Int → Int → Prop} {L : List T.Stop}
theorem Lay.last {up lo hi : Int} {b : Nat} {l : List T.Stop} (h : Lay H up lo hi b l) : ∀ p : Nat,up = p → p < b → (∀ (k : Nat) (x : T.Stop),l[k]? = some x → L[b + k]? = some x) → l ≠ [] → p ∈ zn L (b + l.length - 1) := by
 induction h with
 | nil => intro _ _ _ _ h; exact absurd rfl h
 | cons up lo hi b x kids rest hu h1 h2 hH hk hr ihk ihr =>
  intro p hp hpb hL _
  have hLb : L[b]? = some x := by simpa using hL 0 x (by simp)
  have hb : p ∈ zn L b := by rw [nk hLb (hu.trans hp) hpb]; exact List.mem_cons_self
  have hLk : ∀ (i : Nat) (y : T.Stop),kids[i]? = some y → L[b + 1 + i]? = some y := fun i y h => by
   have := hL (i + 1) y (qh2 h)
   rwa [show b + (i + 1) = b + 1 + i by omega] at this
  have hLr : ∀ (i : Nat) (y : T.Stop),rest[i]? = some y → L[b + 1 + kids.length + i]? = some y := fun i y h => by
   have := hL _ y (qj1 h)
   rwa [show b + (i + 1 + kids.length) = b + 1 + kids.length + i by omega] at this
  have e : b + (x :: (kids ++ rest)).length - 1 = b + kids.length + rest.length := by simp; omega
  rw [e]
  by_cases hre : rest = []
  ·subst hre
   by_cases hke : kids = []
   ·subst hke; simpa using hb
   ·have := ihk b rfl (by omega) hLk hke
    rw [show b + 1 + kids.length - 1 = b + kids.length by omega] at this
    exact qil hb _ (by simpa using this)
  ·have := ihr p hp (by omega) hLr hre
   have hl : 0 < rest.length := List.length_pos_iff.2 hre
   rwa [show b + 1 + kids.length + rest.length - 1 = b + kids.length + rest.length by omega] at this
theorem Lay.placed {up lo hi : Int} {b : Nat} {l : List T.Stop} (h : Lay H up lo hi b l) : (up = -1 ∨ ∃ p : Nat,up = p ∧ p < b ∧ (p = b - 1 ∨ p ∈ zn L (b - 1))) → (∀ (k : Nat) (x : T.Stop),l[k]? = some x → L[b + k]? = some x) →
  ∀ (k : Nat) (x : T.Stop),l[k]? = some x → q7l L (b + k) x := by
 induction h with
 | nil => intro _ _ k x hx; simp at hx
 | cons up lo hi b x kids rest hu h1 h2 hH hk hr ihk ihr =>
  intro hup hL k z hz
  have hLb : L[b]? = some x := by simpa using hL 0 x (by simp)
  have hLk : ∀ (i : Nat) (y : T.Stop),kids[i]? = some y → L[b + 1 + i]? = some y := fun i y h => by
   have := hL (i + 1) y (qh2 h)
   rwa [show b + (i + 1) = b + 1 + i by omega] at this
  have hLr : ∀ (i : Nat) (y : T.Stop),rest[i]? = some y → L[b + 1 + kids.length + i]? = some y := fun i y h => by
   have := hL _ y (qj1 h)
   rwa [show b + (i + 1 + kids.length) = b + 1 + kids.length + i by omega] at this
  rcases qfx hz with ⟨rfl,rfl⟩ | ⟨i,rfl,hi⟩ | ⟨i,rfl,hi⟩
  ·rcases hup with h | ⟨p,p1,p2,p3⟩
   ·exact .inl (hu.trans h)
   ·exact .inr ⟨p,hu.trans p1,by omega,p3⟩
  ·rw [show b + (i + 1) = b + 1 + i by omega]
   exact ihk (.inr ⟨b,rfl,by omega,.inl rfl⟩) hLk i z hi
  ·rw [show b + (i + 1 + kids.length) = b + 1 + kids.length + i by omega]
   refine ihr ?_ hLr i z hi
   rcases hup with h | ⟨p,p1,p2,p3⟩
   ·exact .inl h
   ·refine .inr ⟨p,p1,by omega,.inr ?_⟩
    have hb : p ∈ zn L b := by rw [nk hLb (hu.trans p1) p2]; exact List.mem_cons_self
    by_cases hke : kids = []
    ·subst hke; simpa using hb
    ·have := hk.last b rfl (by omega) hLk hke
     exact qil hb _ this
end
def zt (a : Int) (x : T.Stop) : T.Stop := { x with span := ⟨x.span.frm + a,x.span.to + a⟩ }
theorem Lay.shift {H : Int → Int → Prop} {up lo hi : Int} {b : Nat} {l : List T.Stop} (h : Lay H up lo hi b l) (a : Int) : Lay H up (lo + a) (hi + a) b (l.map (zt a)) := by
 induction h with
 | nil up lo hi b h => exact .nil _ _ _ _ (by omega)
 | cons up lo hi b x kids rest hu h1 h2 hH hk hr ihk ihr =>
  rw [List.map_cons,List.map_append]
  refine .cons up (lo + a) (hi + a) b (zt a x) _ _ hu ?_ ?_ (fun y hy => ?_) ihk ?_
  ·simp only [zt]; omega
  ·simp only [zt]; omega
  ·obtain ⟨z,hz,rfl⟩ := List.mem_map.1 hy
   exact hH z hz
  ·simp only [List.length_map]; exact ihr
theorem Lay.idx {H : Int → Int → Prop} {i : T.qj} (h : Lay H (-1) i.span.frm i.span.to 0 i.stops.l) : q30 i := by
 intro k x hx
 have hin := h.in_ (by omega) k x hx
 have hpl := h.placed (L := i.stops.l) (.inl rfl) (fun k x h => by simpa using h) k x hx
 rw [Nat.zero_add] at hpl
 refine ⟨hpl,hin.le,fun _ => ⟨hin.lo,hin.hi⟩,fun v y hv hy => ?_,hin.sib⟩
 rcases hin.ins with e | ⟨q,z,e,_,q2,q3⟩
 ·omega
 ·have : v = q := by omega
  subst this
  rw [q2] at hy
  cases hy
  exact q3
end Go.Proofs.YtdhgdeelagmbpaaGreat
set_option linter.unusedSimpArgs false
set_option linter.unusedVariables false
namespace Go.Proofs.YtdhgdeelagmbpaaGreat
open Go Go.Gm
section
variable {i : T.qj} (h : q30 i)
include h
theorem q30.between {w : Nat} : ∀ j,w ∈ zn i.stops.l j → ∀ a,w < a → a ≤ j → w ∈ zn i.stops.l a := by
 intro j
 induction j with
 | zero => intro hw; have := qig _ _ _ hw; omega
 | succ j ih =>
  intro hw a h1 h2
  rcases Nat.eq_or_lt_of_le h2 with rfl | h2
  ·exact hw
  cases hx : i.stops.l[j + 1]? with
  | none => rw [zn.eq_1,hx] at hw; simp at hw
  | some x =>
   obtain ⟨p,p1,p2,p3⟩ := qg0 hx hw
   refine ih ?_ a h1 (by omega)
   rcases (h _ _ hx).pl with e | ⟨v,e,_,v2⟩
   ·omega
   ·have : p = v := by omega
    subst this
    simp only [Nat.add_sub_cancel] at v2
    rcases v2 with rfl | v2
    ·rcases p3 with rfl | p3
     ·omega
     ·exact p3
    ·rcases p3 with rfl | p3
     ·exact v2
     ·exact qil p3 _ v2
theorem q30.inside : ∀ (j w : Nat) (x y : T.Stop),i.stops.l[j]? = some x → i.stops.l[w]? = some y → w ∈ zn i.stops.l j → y.span.frm ≤ x.span.frm ∧ x.span.to ≤ y.span.to := by
 intro j
 induction j using Nat.strongRecOn with
 | _ j ih =>
 intro w x y hx hy hw
 obtain ⟨p,p1,p2,p3⟩ := qg0 hx hw
 rcases p3 with rfl | p3
 ·exact (h _ _ hx).ins w y p1 hy
 ·have hj := (List.getElem?_eq_some_iff.1 hx).1
  have hz : i.stops.l[p]? = some i.stops.l[p] := by simp [show p < i.stops.l.length by omega]
  generalize i.stops.l[p] = z at hz
  have a1 := (h _ _ hx).ins p z p1 hz
  have a2 := ih p p2 w z y hz hy p3
  omega
theorem q30.side {w : Int} : ∀ (a : Nat) (x : T.Stop),i.stops.l[a]? = some x → (w = -1 ∨ ∃ q : Nat,w = q ∧ q ∈ zn i.stops.l a) → ∃ (s : Nat) (y : T.Stop),(s = a ∨ s ∈ zn i.stops.l a) ∧ i.stops.l[s]? = some y ∧ y.up = w := by
 intro a
 induction a using Nat.strongRecOn with
 | _ a ih =>
 intro x hx hw
 by_cases e : x.up = w
 ·exact ⟨a,x,.inl rfl,hx,e⟩
 have hl := (h _ _ hx).pl.lt
 have hj := (List.getElem?_eq_some_iff.1 hx).1
 have hp : ∃ p : Nat,x.up = p := by
  rcases hw with rfl | ⟨q,rfl,hq⟩
  ·exact ⟨x.up.toNat,by omega⟩
  ·obtain ⟨p,p1,_⟩ := qg0 hx hq
   exact ⟨p,p1⟩
 obtain ⟨p,hp⟩ := hp
 have hz : i.stops.l[p]? = some i.stops.l[p] := by simp [show p < i.stops.l.length by omega]
 generalize i.stops.l[p] = z at hz
 obtain ⟨s,y,s1,s2,s3⟩ := ih p (by omega) z hz (by
  rcases hw with rfl | ⟨q,rfl,hq⟩
  ·exact .inl rfl
  ·refine .inr ⟨q,rfl, ?_⟩
   rw [nk hx hp (by omega)] at hq
   rcases List.mem_cons.1 hq with rfl | hq
   ·exact absurd hp e
   ·exact hq)
 refine ⟨s,y,.inr ?_,s2,s3⟩
 rw [nk hx hp (by omega)]
 exact List.mem_cons.2 s1
theorem q30.apart {a m b : Nat} {x y z : T.Stop} (ha : i.stops.l[a]? = some x) (hm : i.stops.l[m]? = some y) (hb : i.stops.l[b]? = some z) (hmb : m = b ∨ m ∈ zn i.stops.l b) (ham : a < m) (hup : y.up < a) : x.span.to ≤ z.span.frm := by
 have hin : y.span.frm ≤ z.span.frm := by
  rcases hmb with rfl | hmb
  ·rw [hm] at hb; cases hb; exact Int.le_refl _
  ·exact (h.inside b m z y hb hm hmb).1
 obtain ⟨s,t,s1,s2,s3⟩ := h.side (w := y.up) a x ha (by
  rcases (h _ _ hm).pl with e | ⟨v,e,_,v2⟩
  ·exact .inl e
  ·refine .inr ⟨v,e, ?_⟩
   have : v ∈ zn i.stops.l m := by rw [nk hm e (by omega)]; exact List.mem_cons_self
   exact h.between m this a (by omega) (by omega))
 have hsm : s < m := by
  rcases s1 with rfl | s1
  ·exact ham
  ·have := qig _ _ _ s1; omega
 have a1 := (h _ _ hm).sib s t hsm s2 s3
 have a2 : x.span.to ≤ t.span.to := by
  rcases s1 with rfl | s1
  ·rw [ha] at s2; cases s2; exact Int.le_refl _
  ·exact (h.inside a s x t ha s2 s1).2
 omega
end
end Go.Proofs.YtdhgdeelagmbpaaGreat
set_option linter.unusedSimpArgs false
set_option linter.unusedVariables false
namespace Go.Proofs.YtdhgdeelagmbpaaGreat
open Go Go.Gm
theorem qp0 {up lo hi : Int} {H : Int → Int → Prop} {b : Nat} {l : List T.Stop} (h : Lay H up lo hi b l) (hub : up < b) : ∀ x ∈ l,lo ≤ x.span.frm ∧ x.span.frm ≤ x.span.to ∧ x.span.to ≤ hi := by
 intro x hx
 obtain ⟨k,hk⟩ := List.mem_iff_getElem?.1 hx
 have := h.in_ hub k x hk
 exact ⟨this.lo,this.le,this.hi⟩
theorem zod (at_ : Int) (h0 : 0 ≤ at_) (h1 : at_ ≤ 1000) (p : Sl T.Stop) (hp : ∀ x ∈ p.l,0 ≤ x.span.frm ∧ x.span.frm ≤ x.span.to ∧ x.span.to ≤ 65536) (hm : p.l.length ≤ 257) (t : T.qj) (e1 e2 : Int) :
  ∀ (d k : Nat) (out : List T.Stop),k + d = p.l.length → out = (p.l.take k).map (zt at_) → q52 (at_,p,(k : Int),t,e1,e2,out) = some (p.l.map (zt at_)) := by
 intro d
 induction d with
 | zero =>
  intro k out hk ho
  rw [q52.eq_1,if_neg (by simp; omega),ho,show k = p.l.length by omega,List.take_length]
 | succ d ih =>
  intro k out hk ho
  have hkl : k < p.l.length := by omega
  have hx := zi hkl
  have hx2 : p.l[k]? = some p.l[k] := by simp [hkl]
  generalize p.l[k] = x at hx hx2
  obtain ⟨a1,a2,a3⟩ := hp x (List.mem_of_getElem? hx2)
  have hol : out.length = k := by rw [ho]; simp; omega
  rw [q52.eq_1,if_pos (by simp; omega),jl (by omega)]
  simp only [hx,Option.bind_eq_bind,Option.bind_some]
  rw [if_pos (zy (by omega) (by omega)),q9 (by omega) (by omega),q9 (by omega) (by omega)]
  refine ih (k + 1) _ (by omega) ?_
  rw [List.take_add_one,hx2,List.map_append,ho]
  rfl
theorem zko : q9b ⟨true,[]⟩ [] [] := ⟨by simp,by simp,by simp,by simp⟩
theorem zmk (s : Bytes) : ∃ (ok : Bool) (a : Bytes) (st : List T.Stop),(ok = true → qdr a st) ∧ ∀ at_ : Int,0 ≤ at_ → at_ ≤ 1000 → q76 s at_ = some (if ok then (T.qj.mk ⟨at_,at_ + a.length⟩ ⟨false,st.map (zt at_)⟩,true) else (T.qj.mk ⟨0,0⟩ ⟨true,[]⟩,false)) := by
 obtain ⟨v,hv,hv1,_⟩ := zuk s
 obtain ⟨r,hr,hr1⟩ := qvh zko v.1 hv1
 by_cases hc : v.2 = 0 ∧ r.2.2 = 0
 ·have hM := hr1 hc.2
  refine ⟨true,r.1,r.2.1.l,fun _ => hM,fun at_ h0 h1 => ?_⟩
  obtain ⟨H,hL,_⟩ := hM.lay
  have hsp : ∀ x ∈ r.2.1.l,0 ≤ x.span.frm ∧ x.span.frm ≤ x.span.to ∧ x.span.to ≤ 65536 := by
   intro x hx
   have := qp0 hL (by omega) x hx
   have := hM.len
   omega
  have hlen := hM.len
  unfold q76
  simp only [hv,hr,hc.1,hc.2,Option.bind_eq_bind,Option.bind_some]
  have := zod at_ h0 h1 r.2.1 hsp hM.many.2 (T.qj.mk ⟨0,0⟩ ⟨true,[]⟩) at_ (IntKind.i64.wrap (at_ + (r.1.length : Int))) r.2.1.l.length 0 [] (by omega) (by simp)
  simp only [Int.natCast_zero] at this
  simp only [bne_self_eq_false,Bool.or_self,Bool.false_eq_true,if_false,this,Option.bind_some,if_true]
  rw [q9 (by omega) (by omega)]
  have hne : (r.2.1.l.map (zt at_)).isEmpty = false := by
   have := hM.many.1
   cases h : r.2.1.l with
   | nil => rw [h] at this; simp at this
   | cons => rfl
  rw [hne]
 ·refine ⟨false,[],[],by simp,fun at_ h0 h1 => ?_⟩
  unfold q76
  simp only [hv,hr,Option.bind_eq_bind,Option.bind_some]
  rw [if_pos (by simp only [Bool.or_eq_true,bne_iff_ne,ne_eq]; omega)]
  rfl
theorem qdr.idx {a : Bytes} {st : List T.Stop} (h : qdr a st) (at_ : Int) : q30 ⟨⟨at_,at_ + a.length⟩,⟨false,st.map (zt at_)⟩⟩ := by
 obtain ⟨H,hL,_⟩ := h.lay
 have := hL.shift at_
 refine Lay.idx (H := H) ?_
 rw [Int.zero_add,Int.add_comm] at this
 exact this
end Go.Proofs.YtdhgdeelagmbpaaGreat
set_option linter.unusedSimpArgs false
set_option linter.unusedVariables false
namespace Go.Proofs.YtdhgdeelagmbpaaGreat
open Go Go.Gm
def xz (m : qz) : List Int := m.es.map (·.1)
structure MOK (m : qz) : Prop where
 kn : (xz m).Nodup
 sn : (m.es.map (·.2.2)).Nodup
 sc : ∀ e ∈ m.es,e.2.2 < m.clock
theorem qba (k : Int) : ∀ (l : List (Int × Int × Nat)) (i j : Nat) (v : Int) (b : Nat),zq k l i = some (j,v,b) → ∃ d,j = i + d ∧ l[d]? = some (k,v,b)
 | [],i,j,v,b,h => by simp [zq] at h
 | (x,u,c) :: r,i,j,v,b,h => by
  simp only [zq] at h
  split at h
  ·rename_i hk
   simp only [beq_iff_eq] at hk
   subst hk
   simp only [Option.some.injEq,Prod.mk.injEq] at h
   obtain ⟨rfl,rfl,rfl⟩ := h
   exact ⟨0,rfl,rfl⟩
  ·obtain ⟨d,rfl,hd⟩ := qba k r (i + 1) j v b h
   exact ⟨d + 1,by omega,by simpa using hd⟩
theorem qb5 (k : Int) : ∀ (l : List (Int × Int × Nat)) (i : Nat),zq k l i = none ↔ k ∉ l.map (·.1)
 | [],i => by simp [zq]
 | (x,u,c) :: r,i => by
  simp only [zq]
  split
  ·rename_i hk
   simp only [beq_iff_eq] at hk
   simp [hk]
  ·rename_i hk
   have : k ≠ x := by simpa using hk
   rw [qb5 k r (i + 1)]
   simp [this]
theorem qkk (m : qz) (k : Int) : yu m k = true ↔ k ∈ xz m := by
 unfold yu xz
 cases h : zq k m.es 0 with
 | none => simpa using (qb5 k m.es 0).1 h
 | some x =>
  obtain ⟨j,v,b⟩ := x
  obtain ⟨d,_,hd⟩ := qba k _ _ _ _ _ h
  simp only [Option.isSome_some,true_iff]
  exact List.mem_map.2 ⟨_,List.mem_of_getElem? hd,rfl⟩
theorem qmv {α : Type} {l : List α} {d : Nat} {x : α} (h : l[d]? = some x) : l.set d x = l := by
 apply List.ext_getElem?
 intro i
 rw [List.getElem?_set]
 split
 ·rename_i hd
  subst hd
  have := (List.getElem?_eq_some_iff.1 h).1
  rw [h]
  simp [this]
 ·rfl
theorem qpe {α : Type} : ∀ {l : List α} {d : Nat} {x : α},l[d]? = some x → l.Perm (x :: l.eraseIdx d)
 | [],d,x,h => by simp at h
 | y :: l,0,x,h => by simp at h; subst h; exact .refl _
 | y :: l,d + 1,x,h => ((qpe (l := l) (by simpa using h)).cons y).trans (.swap x y _)
theorem zgd {m : qz} (h : MOK m) (k v : Int) : MOK (j6 m k v) := by
 unfold j6
 cases hf : zq k m.es 0 with
 | none =>
  have hk := (qb5 k m.es 0).1 hf
  refine ⟨?_, ?_, ?_⟩
  ·simp only [xz,List.map_append,List.map_cons,List.map_nil]
   refine List.nodup_append.2 ⟨h.kn,by simp,fun a ha b hb => ?_⟩
   simp at hb
   subst hb
   exact fun e => hk (e ▸ ha)
  ·simp only [List.map_append,List.map_cons,List.map_nil]
   refine List.nodup_append.2 ⟨h.sn,by simp,fun a ha b hb => ?_⟩
   simp at hb
   subst hb
   obtain ⟨e,he,rfl⟩ := List.mem_map.1 ha
   have := h.sc e he
   omega
  ·intro e he
   rcases List.mem_append.1 he with he | he
   ·have := h.sc e he; simp only; omega
   ·simp at he; subst he; simp
 | some x =>
  obtain ⟨j,w,b⟩ := x
  obtain ⟨d,rfl,hd⟩ := qba k _ _ _ _ _ hf
  simp only [Nat.zero_add]
  have e1 : ((m.es.set d (k,v,b)).map (·.1)) = m.es.map (·.1) := by
   rw [List.map_set]
   exact qmv (by simp [hd])
  have e2 : ((m.es.set d (k,v,b)).map (·.2.2)) = m.es.map (·.2.2) := by
   rw [List.map_set]
   exact qmv (by simp [hd])
  refine ⟨by simp only [xz,e1]; exact h.kn,by rw [e2]; exact h.sn,fun e he => ?_⟩
  have : e.2.2 ∈ (m.es.set d (k,v,b)).map (·.2.2) := List.mem_map.2 ⟨e,he,rfl⟩
  rw [e2] at this
  obtain ⟨e',he',heq⟩ := List.mem_map.1 this
  have := h.sc e' he'
  simp only at heq ⊢
  omega
theorem zcr (m : qz) (k v : Int) : (j6 m k v).es.length ≤ m.es.length + 1 := by
 unfold j6
 split <;> simp
theorem z2g (m : qz) (k v x : Int) : x ∈ xz (j6 m k v) ↔ x = k ∨ x ∈ xz m := by
 rw [← qkk,← qkk,qgg]
 split <;> simp_all
theorem qk3 {m : qz} (h : MOK m) (k : Int) : MOK (jy m k) ∧ (∀ x,x ∈ xz (jy m k) ↔ x ∈ xz m ∧ x ≠ k) ∧ (jy m k).es.length ≤ m.es.length := by
 unfold jy
 cases hf : zq k m.es 0 with
 | none =>
  have hk := (qb5 k m.es 0).1 hf
  exact ⟨h,fun x => ⟨fun hx => ⟨hx,fun e => hk (e ▸ hx)⟩,fun hx => hx.1⟩,Nat.le_refl _⟩
 | some y =>
  obtain ⟨j,w,b⟩ := y
  obtain ⟨d,rfl,hd⟩ := qba k _ _ _ _ _ hf
  simp only [Nat.zero_add]
  have hs : (m.es.eraseIdx d).Sublist m.es := List.eraseIdx_sublist _ _
  have hdl := (List.getElem?_eq_some_iff.1 hd).1
  refine ⟨⟨h.kn.sublist (hs.map _),h.sn.sublist (hs.map _),fun e he => h.sc e (hs.subset he)⟩,fun x => ?_,by rw [List.length_eraseIdx]; split <;> omega⟩
  have e1 : xz ⟨m.es.eraseIdx d,m.clock⟩ = (xz m).eraseIdx d := by simp only [xz,qg5]
  have hkd : (xz m)[d]? = some k := by simp [xz,hd]
  rw [e1]
  have hp : (xz m).Perm (k :: (xz m).eraseIdx d) := qpe hkd
  have hn := hp.nodup_iff.1 h.kn
  rw [List.nodup_cons] at hn
  constructor
  ·intro hx
   exact ⟨hp.mem_iff.2 (by simp [hx]),fun e => hn.1 (e ▸ hx)⟩
  ·rintro ⟨hx,hne⟩
   rcases List.mem_cons.1 (hp.mem_iff.1 hx) with e | hx
   ·exact absurd e hne
   ·exact hx
def mq (l : List Int) : Prop := l.Pairwise (· < ·)
theorem qgv : ∀ {a b : List Int},mq a → mq b → (∀ x,x ∈ a ↔ x ∈ b) → a = b
 | [],[],_,_,_ => rfl
 | [],y :: b,_,_,h => by have := (h y).2 (by simp); simp at this
 | x :: a,[],_,_,h => by have := (h x).1 (by simp); simp at this
 | x :: a,y :: b,ha,hb,h => by
  have ha' := List.pairwise_cons.1 ha
  have hb' := List.pairwise_cons.1 hb
  have hxy : x = y := by
   have h1 := (h x).1 (by simp)
   have h2 := (h y).2 (by simp)
   rcases List.mem_cons.1 h1 with e | h1
   ·exact e
   ·rcases List.mem_cons.1 h2 with e | h2
    ·exact e.symm
    ·have := ha'.1 y h2; have := hb'.1 x h1; omega
  subst hxy
  refine congrArg _ (qgv ha'.2 hb'.2 fun z => ?_)
  constructor
  ·intro hz
   have := ha'.1 z hz
   rcases List.mem_cons.1 ((h z).1 (by simp [hz])) with e | h1
   ·omega
   ·exact h1
  ·intro hz
   have := hb'.1 z hz
   rcases List.mem_cons.1 ((h z).2 (by simp [hz])) with e | h1
   ·omega
   ·exact h1
theorem z9y {l : List Int} (h : l.Nodup) : mq (xw l) := by
 have h1 := qgc l
 have h2 : (xw l).Nodup := (qag l).nodup_iff.2 h
 have : (xw l).Pairwise (fun a b => a ≤ b ∧ a ≠ b) := h1.and h2
 exact this.imp fun h => by omega
theorem qmu {m : qz} (h : MOK m) (hk : ∀ k ∈ xz m,inI k) (hl : m.es.length ≤ 1099511627776) : q1o m = some (xw (xz m)) := by
 unfold q1o
 rw [if_pos]
 ·rfl
 ·simp only [qem,Bool.and_eq_true,decide_eq_true_eq,List.all_eq_true,List.length_map]
  refine ⟨⟨⟨⟨h.kn,fun k hkm => ?_⟩,h.sn⟩,fun b hb => ?_⟩,hl⟩
  ·have := hk k hkm
   exact this
  ·obtain ⟨e,he,rfl⟩ := List.mem_map.1 hb
   exact h.sc e he
end Go.Proofs.YtdhgdeelagmbpaaGreat
set_option linter.unusedSimpArgs false
set_option linter.unusedVariables false
namespace Go.Proofs.YtdhgdeelagmbpaaGreat
open Go Go.Gm
theorem zgh (a b : Sl Int) (h : a.l = b.l) (hl : a.l.length < 2 ^ 60) : ∀ (d k : Nat),k + d = a.l.length → q5f (a,b,(k : Int)) = some (.inr ()) := by
 intro d
 induction d with
 | zero =>
  intro k hk
  rw [q5f.eq_1,if_neg (by simp; omega)]
 | succ d ih =>
  intro k hk
  have hkl : k < a.l.length := by omega
  have hx := zi hkl
  have hy : qd b.l (k : Int) = some a.l[k] := by rw [← h]; exact hx
  have hw : IntKind.i64.wrap ((k : Int) + 1) = ((k + 1 : Nat) : Int) := jl (by omega)
  rw [q5f.eq_1,if_pos (by simpa using hkl)]
  simp only [hx,hy,Option.bind_eq_bind,Option.bind_some,hw]
  rw [if_neg (by simp),ih (k + 1) (by omega)]
theorem zhi (a b : Sl Int) (h : a.l = b.l) (hl : a.l.length < 2 ^ 60) : q9q a b = some true := by
 have := zgh a b h hl a.l.length 0 (by omega)
 simp only [Int.natCast_zero] at this
 unfold q9q
 rw [if_neg (by rw [h]; simp),this]
 rfl
end Go.Proofs.YtdhgdeelagmbpaaGreat
set_option linter.unusedSimpArgs false
set_option linter.unusedVariables false
namespace Go.Proofs.YtdhgdeelagmbpaaGreat
open Go Go.Gm
theorem qi5 {n b : Nat} (h : n ≤ 1099511627776) (hb : b ≤ 64) : ql n b = true := by
 simp only [ql,Bool.and_eq_true,decide_eq_true_eq]
 refine ⟨⟨?_,by omega⟩,by omega⟩
 calc n * b ≤ n * 64 := Nat.mul_le_mul_left _ hb
  _ ≤ 2 ^ 46 := by omega
theorem zjb (ns : Sl Int) (n : Int) (hl : ns.l.length < 2 ^ 60) : ∀ (d k : Nat),k + d = ns.l.length → (∀ j x,j < k → ns.l[j]? = some x → x < n) →
  ∃ p : Nat,qdo (ns,n,(k : Int)) = some (p : Int) ∧ p ≤ ns.l.length ∧ (∀ j x,j < p → ns.l[j]? = some x → x < n) ∧ (∀ x,ns.l[p]? = some x → n ≤ x) := by
 intro d
 induction d with
 | zero =>
  intro k hk hj
  obtain rfl : k = ns.l.length := by omega
  refine ⟨ns.l.length, ?_,Nat.le_refl _,hj,by simp⟩
  rw [qdo.eq_1]
  simp
 | succ d ih =>
  intro k hk hj
  have hkl : k < ns.l.length := by omega
  have hx := zi hkl
  have hx' : ns.l[k]? = some ns.l[k] := by simp [hkl]
  generalize ns.l[k] = x at hx hx'
  have hw : IntKind.i64.wrap ((k : Int) + 1) = ((k + 1 : Nat) : Int) := jl (by omega)
  rw [qdo.eq_1]
  simp only [hx,Option.bind_eq_bind,Option.bind_some,hw]
  by_cases h : x < n
  ·obtain ⟨p,h1,h2⟩ := ih (k + 1) (by omega) (fun j y hjk hy => by
    by_cases e : j = k
    ·subst e; rw [hx'] at hy; cases hy; exact h
    ·exact hj j y (by omega) hy)
   exact ⟨p,by simpa [hkl,h] using h1,h2⟩
  ·exact ⟨k,by simp [hkl,h],by omega,hj,fun y hy => by rw [hx'] at hy; cases hy; omega⟩
theorem zsv (ns : Sl Int) (n : Int) (hl : ns.l.length ≤ 1000) (hr : mq ns.l) : ∃ out,qgl ns n = some out ∧ mq out.l ∧ (∀ x,x ∈ out.l ↔ x = n ∨ x ∈ ns.l) ∧ out.l.length ≤ ns.l.length + 1 := by
 obtain ⟨p,h1,h2,h3,h4⟩ := zjb ns n (by omega) ns.l.length 0 (by omega) (fun j x hj => by omega)
 simp only [Int.natCast_zero] at h1
 have hT : yh ns.l (p : Int) = some (ns.l.take p) := by unfold yh; rw [if_pos (by simp; omega)]; simp
 have hF : je ns.l (p : Int) = some (ns.l.drop p) := by unfold je; rw [if_pos (by simp; omega)]; simp
 have hroom : ∀ k,k ≤ 3000 → ql k 8 = true := fun k hk => qi5 (by omega) (by omega)
 have mid : (∀ x,ns.l[p]? = some x → n < x) → mq ((ns.l.take p ++ [n]) ++ ns.l.drop p) ∧ (∀ x,x ∈ (ns.l.take p ++ [n]) ++ ns.l.drop p ↔ x = n ∨ x ∈ ns.l) ∧ ((ns.l.take p ++ [n]) ++ ns.l.drop p).length ≤ ns.l.length + 1 := by
  intro hlt
  have hsp : ns.l.take p ++ ns.l.drop p = ns.l := List.take_append_drop p ns.l
  have hr2 : mq (ns.l.take p ++ ns.l.drop p) := by rw [hsp]; exact hr
  obtain ⟨r1,r2,r3⟩ := List.pairwise_append.1 hr2
  have a1 : ∀ x ∈ ns.l.take p,x < n := by
   intro x hx
   obtain ⟨j,hj⟩ := List.getElem?_of_mem hx
   have hjl := (List.getElem?_eq_some_iff.1 hj).1
   simp at hjl
   rw [List.getElem?_take_of_lt (by omega)] at hj
   exact h3 j x (by omega) hj
  have a2 : ∀ x ∈ ns.l.drop p,n < x := by
   intro x hx
   cases hd : ns.l.drop p with
   | nil => rw [hd] at hx; simp at hx
   | cons y r =>
    have hy : ns.l[p]? = some y := by
     have := congrArg (fun l => l[0]?) hd
     simpa using this
    have := hlt y hy
    rw [hd] at hx r2
    rcases List.mem_cons.1 hx with rfl | hx
    ·exact this
    ·have := (List.pairwise_cons.1 r2).1 x hx
     omega
  refine ⟨?_,fun x => ?_,by simp; omega⟩
  ·refine List.pairwise_append.2 ⟨List.pairwise_append.2 ⟨r1,by simp,fun x hx y hy => ?_⟩,r2,fun x hx y hy => ?_⟩
   ·simp at hy; subst hy; exact a1 x hx
   ·rcases List.mem_append.1 hx with hx | hx
    ·exact r3 x hx y hy
    ·simp at hx; subst hx; exact a2 y hy
  ·have : x ∈ ns.l ↔ x ∈ ns.l.take p ∨ x ∈ ns.l.drop p := by rw [← List.mem_append,hsp]
   rw [this]
   simp only [List.mem_append,List.mem_singleton]
   constructor
   ·rintro ((h | h) | h)
    ·exact .inr (.inl h)
    ·exact .inl h
    ·exact .inr (.inr h)
   ·rintro (h | h | h)
    ·exact .inl (.inr h)
    ·exact .inl (.inl h)
    ·exact .inr h
 unfold qgl
 simp only [h1,hT,hF,Option.bind_eq_bind,Option.bind_some]
 by_cases hp : p < ns.l.length
 ·have hx := zi hp
  have hx' : ns.l[p]? = some ns.l[p] := by simp [hp]
  generalize ns.l[p] = x at hx hx'
  have hge := h4 x hx'
  rw [if_pos (by simpa using hp),hx]
  simp only [Option.bind_some]
  by_cases e : x = n
  ·refine ⟨ns,by simp [e],hr,fun y => ⟨fun h => .inr h, ?_⟩,by omega⟩
   rintro (rfl | h)
   ·exact e ▸ List.mem_of_getElem? hx'
   ·exact h
  ·obtain ⟨m1,m2,m3⟩ := mid (fun y hy => by rw [hx'] at hy; cases hy; omega)
   refine ⟨⟨false,(ns.l.take p ++ [n]) ++ ns.l.drop p⟩, ?_,m1,m2,m3⟩
   rw [if_neg (by simpa using e),if_pos (hroom _ (by simp; omega)),if_pos (hroom _ (by simp; omega)),if_pos (hroom _ (by simp; omega))]
 ·obtain ⟨m1,m2,m3⟩ := mid (fun y hy => by
   have := (List.getElem?_eq_some_iff.1 hy).1
   omega)
  refine ⟨⟨false,(ns.l.take p ++ [n]) ++ ns.l.drop p⟩, ?_,m1,m2,m3⟩
  rw [if_neg (by simpa using hp),if_pos (hroom _ (by simp; omega)),if_pos (hroom _ (by simp; omega)),if_pos (hroom _ (by simp; omega))]
theorem zhb {m : qz} {k v : Int} {e : Int × Int × Nat} (h : e ∈ (j6 m k v).es) : e.2.1 = v ∨ e ∈ m.es := by
 unfold j6 at h
 split at h
 ·rcases List.mem_or_eq_of_mem_set h with h | h
  ·exact .inr h
  ·exact .inl (by rw [h])
 ·simp only [List.mem_append,List.mem_singleton] at h
  rcases h with h | h
  ·exact .inr h
  ·exact .inl (by rw [h])
theorem z3w {m : qz} {k : Int} {e : Int × Int × Nat} (h : e ∈ (jy m k).es) : e ∈ m.es := by
 unfold jy at h
 split at h
 ·exact List.mem_of_mem_eraseIdx h
 ·exact h
structure Lft (m : qz) (P : Int → Prop) (B : Nat) : Prop where
 ok : MOK m
 keys : ∀ x,x ∈ xz m ↔ P x
 pos : ∀ e ∈ m.es,1 ≤ e.2.1 ∧ e.2.1 ≤ B
 len : m.es.length ≤ B
theorem Lft.get {m : qz} {P : Int → Prop} {B : Nat} (h : Lft m P B) (q : Int) : 0 ≤ zm m q ∧ zm m q ≤ B ∧ (zm m q = 0 ↔ ¬ P q) := by
 rw [← h.keys]
 cases hf : zq q m.es 0 with
 | none =>
  have hk := (qb5 q m.es 0).1 hf
  have : zm m q = 0 := by unfold zm; rw [hf]
  rw [this]
  refine ⟨by omega,by omega, ?_⟩
  simp only [true_iff]
  exact hk
 | some x =>
  obtain ⟨j,v,b⟩ := x
  obtain ⟨d,_,hd⟩ := qba q _ _ _ _ _ hf
  have hm := List.mem_of_getElem? hd
  have hv : zm m q = v := by unfold zm; rw [hf]
  have hp := h.pos _ hm
  simp only at hp
  have hk : q ∈ xz m := List.mem_map.2 ⟨_,hm,rfl⟩
  rw [hv]
  refine ⟨by omega,by omega, ?_⟩
  constructor
  ·intro e; omega
  ·intro e; exact absurd hk e
theorem qgp {m : qz} {P : Int → Prop} {B : Nat} (h : Lft m P B) (hB : B < 100000) (n : Int) : Lft (j6 m n (IntKind.i64.wrap (zm m n + 1))) (fun x => x = n ∨ P x) (B + 1) := by
 have hg := h.get n
 rw [q9 (by omega) (by omega)]
 refine ⟨zgd h.ok _ _,fun x => by rw [z2g,h.keys],fun e he => ?_, ?_⟩
 ·rcases zhb he with e1 | e1
  ·rw [e1]; omega
  ·have := h.pos e e1; omega
 ·have := zcr m n (zm m n + 1)
  have := h.len
  omega
theorem mg {m : qz} {P Q : Int → Prop} {B : Nat} (h : Lft m P B) (hq : ∀ x,P x ↔ Q x) : Lft m Q B := ⟨h.ok,fun x => (h.keys x).trans (hq x),h.pos,h.len⟩
theorem q2w {m : qz} {P : Int → Prop} {B C : Nat} (h : Lft m P B) (hq : B ≤ C) : Lft m P C := ⟨h.ok,h.keys,fun e he => by have := h.pos e he; omega,by have := h.len; omega⟩
theorem qhv (B : Nat) : Lft ⟨[],0⟩ (fun _ => False) B := ⟨⟨by simp [xz],by simp,by simp⟩,by simp [xz],by simp,by simp⟩
theorem zbc (i : T.qj) (hl : i.stops.l.length ≤ 300) : ∀ (d k : Nat) (m : qz),k + d = i.stops.l.length → Lft m (fun x => x ∈ (i.stops.l.take k).map (·.n)) k →
  ∃ m',q6b (i.stops,(i.stops.l.length : Int),(k : Int),i,m) = some m' ∧ Lft m' (fun x => x ∈ i.stops.l.map (·.n)) 300 := by
 intro d
 induction d with
 | zero =>
  intro k m hk h
  obtain rfl : k = i.stops.l.length := by omega
  refine ⟨m, ?_, ?_⟩
  ·rw [q6b.eq_1,if_neg (by simp)]
  ·rw [List.take_length] at h
   exact q2w h hl
 | succ d ih =>
  intro k m hk h
  have hkl : k < i.stops.l.length := by omega
  have hx := zi hkl
  have ht : i.stops.l.take (k + 1) = i.stops.l.take k ++ [i.stops.l[k]] := by rw [List.take_append_getElem]
  generalize i.stops.l[k] = x at hx ht
  have hw : IntKind.i64.wrap ((k : Int) + 1) = ((k + 1 : Nat) : Int) := jl (by omega)
  rw [q6b.eq_1,if_pos (by simp; omega)]
  simp only [hx,Option.bind_eq_bind,Option.bind_some,hw]
  refine ih (k + 1) _ (by omega) (mg (qgp h (by omega) x.n) fun q => ?_)
  rw [ht]
  simp [or_comm]
theorem zt5 (i : T.qj) (hl : i.stops.l.length ≤ 300) (t12 : Sl T.Stop) (t13 t14 : Int) (left : qz) (s : T.Stop) (u : Nat) : ∀ (out : qz) (P : Int → Prop) (B : Nat),u < i.stops.l.length → B + u < 95000 → Lft out P B →
  ∃ out',q00 ((u : Int),t12,t13,t14,left,i,out,s) = some out' ∧
   Lft out' (fun q => P q ∨ ∃ v x,(v = u ∨ v ∈ zn i.stops.l u) ∧ i.stops.l[v]? = some x ∧ x.n = q ∧ q ≠ s.n) (B + u + 1) := by
 induction u using Nat.strongRecOn with
 | _ u ih =>
 intro out P B hu hB h
 have hy := zi hu
 have hy2 : i.stops.l[u]? = some i.stops.l[u] := by simp [hu]
 generalize i.stops.l[u] = y at hy hy2
 have h1 : ∃ out1,Lft out1 (fun q => P q ∨ (y.n = q ∧ q ≠ s.n)) (B + 1) ∧ q00 ((u : Int),t12,t13,t14,left,i,out,s) = (q1n i (u : Int)).bind fun v => q00 (v,t12,t13,t14,left,i,out1,s) := by
  by_cases e : y.n = s.n
  ·refine ⟨out,mg (q2w h (by omega)) fun q => ?_, ?_⟩
   ·constructor
    ·exact .inl
    ·rintro (h | ⟨h1,h2⟩)
     ·exact h
     ·exact absurd (h1.symm.trans e) h2
   ·rw [q00.eq_1,if_pos (by simp)]
    simp only [hy,Option.bind_eq_bind,Option.bind_some]
    rw [if_neg (by simpa using e)]
  ·refine ⟨_,mg (qgp h (by omega) y.n) fun q => ?_, ?_⟩
   ·constructor
    ·rintro (rfl | h)
     ·exact .inr ⟨rfl,e⟩
     ·exact .inl h
    ·rintro (h | ⟨h1,h2⟩)
     ·exact .inr h
     ·exact .inl h1.symm
   ·conv => lhs; rw [q00.eq_1,if_pos (by simp)]
    simp only [hy,Option.bind_eq_bind,Option.bind_some]
    rw [if_pos (by simpa using e)]
 obtain ⟨out1,h1,he⟩ := h1
 rw [he]
 by_cases hv : 0 ≤ y.up ∧ y.up < u
 ·obtain ⟨p,hp⟩ : ∃ p : Nat,y.up = p := ⟨y.up.toNat,by omega⟩
  rw [qjg hy hp (by omega)]
  obtain ⟨out',h2,h3⟩ := ih p (by omega) out1 _ (B + 1) (by omega) (by omega) h1
  refine ⟨out',h2,mg (q2w h3 (by omega)) fun q => ?_⟩
  rw [nk hy2 hp (by omega)]
  constructor
  ·rintro ((h | ⟨h1,h2⟩) | ⟨v,x,h1,h2⟩)
   ·exact .inl h
   ·exact .inr ⟨u,y,.inl rfl,hy2,h1,h2⟩
   ·exact .inr ⟨v,x,.inr (List.mem_cons.2 h1),h2⟩
  ·rintro (h | ⟨v,x,h1,h2⟩)
   ·exact .inl (.inl h)
   ·rcases h1 with rfl | h1
    ·rw [hy2] at h2
     obtain ⟨h2,h3⟩ := h2
     cases h2
     exact .inl (.inr h3)
    ·exact .inr ⟨v,x,List.mem_cons.1 h1,h2⟩
 ·rw [qj3 hy hv]
  refine ⟨out1, ?_,mg (q2w h1 (by omega)) fun q => ?_⟩
  ·simp only [Option.bind_some]
   rw [q00.eq_1,if_neg (by simp)]
  ·rw [q2v hy2 hv]
   constructor
   ·rintro (h | ⟨h1,h2⟩)
    ·exact .inl h
    ·exact .inr ⟨u,y,.inl rfl,hy2,h1,h2⟩
   ·rintro (h | ⟨v,x,h1,h2⟩)
    ·exact .inl h
    ·rcases h1 with rfl | h1
     ·rw [hy2] at h2
      obtain ⟨h2,h3⟩ := h2
      cases h2
      exact .inr h3
     ·simp at h1
def qbb (l : List T.Stop) (L : Int → Prop) (K : Nat) (q : Int) : Prop :=
 ∃ k x v y,k < K ∧ l[k]? = some x ∧ L x.n ∧ v ∈ zn l k ∧ l[v]? = some y ∧ y.n = q ∧ q ≠ x.n
theorem zhl (i : T.qj) (hl : i.stops.l.length ≤ 300) (left : qz) (L : Int → Prop) (B : Nat) (hL : Lft left L B) : ∀ (d k : Nat) (out : qz),k + d = i.stops.l.length → Lft out (qbb i.stops.l L k) (300 * k) →
  ∃ out',q46 (i.stops,(i.stops.l.length : Int),(k : Int),left,i,out) = some out' ∧ Lft out' (qbb i.stops.l L i.stops.l.length) 90000 := by
 intro d
 induction d with
 | zero =>
  intro k out hk h
  obtain rfl : k = i.stops.l.length := by omega
  refine ⟨out, ?_,q2w h (by omega)⟩
  rw [q46.eq_1,if_neg (by simp)]
 | succ d ih =>
  intro k out hk h
  have hkl : k < i.stops.l.length := by omega
  have hx := zi hkl
  have hx2 : i.stops.l[k]? = some i.stops.l[k] := by simp [hkl]
  generalize i.stops.l[k] = x at hx hx2
  have hw : IntKind.i64.wrap ((k : Int) + 1) = ((k + 1 : Nat) : Int) := jl (by omega)
  rw [q46.eq_1,if_pos (by simp; omega)]
  simp only [hx,Option.bind_eq_bind,Option.bind_some,hw]
  by_cases hz : zm left x.n = 0
  ·rw [if_pos (by simpa using hz)]
   refine ih (k + 1) out (by omega) (mg (q2w h (by omega)) fun q => ?_)
   constructor
   ·rintro ⟨a,z,v,y,h1,h2⟩
    exact ⟨a,z,v,y,by omega,h2⟩
   ·rintro ⟨a,z,v,y,h1,h2,h3,h4⟩
    by_cases e : a = k
    ·subst e
     rw [hx2] at h2
     cases h2
     exact absurd h3 ((hL.get x.n).2.2.1 hz)
    ·exact ⟨a,z,v,y,by omega,h2,h3,h4⟩
  ·rw [if_neg (by simpa using hz)]
   have hLx : L x.n := Classical.byContradiction fun hn => hz ((hL.get x.n).2.2.2 hn)
   by_cases hv : 0 ≤ x.up ∧ x.up < k
   ·obtain ⟨p,hp⟩ : ∃ p : Nat,x.up = p := ⟨x.up.toNat,by omega⟩
    rw [qjg hx hp (by omega)]
    obtain ⟨out1,h1,h2⟩ := zt5 i hl i.stops (i.stops.l.length : Int) (k : Int) left x p out _ (300 * k) (by omega) (by omega) h
    simp only [Option.bind_some,h1]
    refine ih (k + 1) out1 (by omega) (mg (q2w h2 (by omega)) fun q => ?_)
    constructor
    ·rintro (⟨a,z,v,y,h1,h2⟩ | ⟨v,y,h1,h2,h3,h4⟩)
     ·exact ⟨a,z,v,y,by omega,h2⟩
     ·refine ⟨k,x,v,y,by omega,hx2,hLx, ?_,h2,h3,h4⟩
      rw [nk hx2 hp (by omega)]
      exact List.mem_cons.2 h1
    ·rintro ⟨a,z,v,y,g1,g2,g3,g4,g5⟩
     by_cases e : a = k
     ·subst e
      rw [hx2] at g2
      cases g2
      rw [nk hx2 hp (by omega)] at g4
      exact .inr ⟨v,y,List.mem_cons.1 g4,g5⟩
     ·exact .inl ⟨a,z,v,y,by omega,g2,g3,g4,g5⟩
   ·rw [qj3 hx hv]
    have h1 : q00 (-1,i.stops,(i.stops.l.length : Int),(k : Int),left,i,out,x) = some out := by
     rw [q00.eq_1,if_neg (by simp)]
    simp only [Option.bind_some,h1]
    refine ih (k + 1) out (by omega) (mg (q2w h (by omega)) fun q => ?_)
    constructor
    ·rintro ⟨a,z,v,y,h1,h2⟩
     exact ⟨a,z,v,y,by omega,h2⟩
    ·rintro ⟨a,z,v,y,h1,h2,h3,h4,h5⟩
     by_cases e : a = k
     ·subst e
      rw [hx2] at h2
      cases h2
      rw [q2v hx2 hv] at h4
      simp at h4
     ·exact ⟨a,z,v,y,by omega,h2,h3,h4,h5⟩
theorem zuz (i : T.qj) (hl : i.stops.l.length ≤ 300) (left : qz) (L : Int → Prop) (B : Nat) (hL : Lft left L B) :
  ∃ out',qdb i left = some out' ∧ Lft out' (qbb i.stops.l L i.stops.l.length) 90000 := by
 obtain ⟨o,h1,h2⟩ := zhl i hl left L B hL i.stops.l.length 0 ⟨[],0⟩ (by omega) (mg (qhv _) fun q => by simp [qbb])
 refine ⟨o, ?_,h2⟩
 unfold qdb
 simp only [Int.natCast_zero] at h1
 simp [h1]
theorem zea (l : Sl T.Stop) (b : Nat) (a : Nat) : a < l.l.length → qfb (l,(a : Int),(b : Int)) = some (if b ∈ zn l.l a then .inl true else .inr ()) := by
 induction a using Nat.strongRecOn with
 | _ a ih =>
 intro ha
 have hy := zi ha
 have hy2 : l.l[a]? = some l.l[a] := by simp [ha]
 generalize l.l[a] = y at hy hy2
 rw [qfb.eq_1,if_pos (by simp; omega)]
 simp only [hy,Option.bind_eq_bind,Option.bind_some]
 by_cases h0 : 0 ≤ y.up
 ·rw [if_pos (by simpa using h0)]
  by_cases h1 : y.up < a
  ·rw [if_pos (by simpa using h1)]
   obtain ⟨p,hp⟩ : ∃ p : Nat,y.up = p := ⟨y.up.toNat,by omega⟩
   rw [nk hy2 hp (by omega),hp]
   by_cases e : p = b
   ·subst e
    simp
   ·have e2 : ((p : Int) == (b : Int)) = false := by simp; omega
    have e3 : ¬ b = p := fun h => e h.symm
    rw [e2,ih p (by omega) (by omega)]
    simp [e3]
  ·rw [if_neg (by simpa using h1),q2v hy2 (by omega)]
   simp
 ·rw [if_neg (by simpa using h0),q2v hy2 (by omega)]
  simp
theorem za4 (l : Sl T.Stop) (a b : Nat) (ha : a < l.l.length) : qii l (a : Int) (b : Int) = some (decide (b ∈ zn l.l a)) := by
 unfold qii
 rw [zea l b a ha]
 by_cases h : b ∈ zn l.l a <;> simp [h]
theorem zdk (n : Int) (l : List Int) (hl : l.length < 1000) : ∀ (d k : Nat),k + d = l.length → qco (n,(k : Int),l) = some (if n ∈ l.drop k then .inl true else .inr ()) := by
 intro d
 induction d with
 | zero =>
  intro k hk
  rw [qco.eq_1,if_neg (by simp; omega),List.drop_of_length_le (by omega)]
  simp
 | succ d ih =>
  intro k hk
  have hkl : k < l.length := by omega
  have hx := zi hkl
  have hd : l.drop k = l[k] :: l.drop (k + 1) := List.drop_eq_getElem_cons hkl
  generalize l[k] = x at hx hd
  have hw : IntKind.i64.wrap ((k : Int) + 1) = ((k + 1 : Nat) : Int) := jl (by omega)
  rw [qco.eq_1,if_pos (by simp; omega),hd]
  simp only [hx,Option.bind_eq_bind,Option.bind_some,hw]
  by_cases e : x = n
  ·simp [e]
  ·have e2 : ¬ n = x := fun h => e h.symm
   rw [if_neg (by simpa using e),ih (k + 1) (by omega)]
   simp [e2]
theorem qh6 (n : Int) (l : List Int) (hl : l.length < 1000) : qch n l = some (decide (n ∈ l)) := by
 unfold qch
 have := zdk n l hl l.length 0 (by omega)
 simp only [Int.natCast_zero,List.drop_zero] at this
 rw [this]
 by_cases h : n ∈ l <;> simp [h]
theorem qxr (l : Sl T.Stop) (n : Int) (a : Nat) (ha : a < l.l.length) (told : List Int) (hl : l.l.length ≤ 300) : ∀ (d k : Nat),k + d = l.l.length →
  ∃ t : Bool,q9k (l,n,(a : Int),(k : Int),told) = some (if t then .inr () else .inl false) ∧ (t = true ↔ ∀ b y,k ≤ b → l.l[b]? = some y → y.n = n → b ∉ zn l.l a) := by
 intro d
 induction d with
 | zero =>
  intro k hk
  refine ⟨true, ?_, ?_⟩
  ·rw [q9k.eq_1,if_neg (by simp; omega)]; rfl
  ·simp only [true_iff]
   intro b y hb hy
   have := (List.getElem?_eq_some_iff.1 hy).1
   omega
 | succ d ih =>
  intro k hk
  have hkl : k < l.l.length := by omega
  have hx := zi hkl
  have hx2 : l.l[k]? = some l.l[k] := by simp [hkl]
  generalize l.l[k] = x at hx hx2
  have hw : IntKind.i64.wrap ((k : Int) + 1) = ((k + 1 : Nat) : Int) := jl (by omega)
  rw [q9k.eq_1,if_pos (by simp; omega)]
  simp only [hx,za4 l a k ha,Option.bind_eq_bind,Option.bind_some,hw]
  obtain ⟨t,h1,h2⟩ := ih (k + 1) (by omega)
  have hrest : ∀ (hno : x.n = n → k ∉ zn l.l a),(t = true ↔ ∀ b y,k ≤ b → l.l[b]? = some y → y.n = n → b ∉ zn l.l a) := by
   intro hno
   rw [h2]
   constructor
   ·intro h b y hb hy hn
    by_cases e : b = k
    ·subst e
     rw [hx2] at hy
     cases hy
     exact hno hn
    ·exact h b y (by omega) hy hn
   ·intro h b y hb hy hn
    exact h b y (by omega) hy hn
  by_cases e : x.n = n
  ·rw [if_pos (by simpa using e)]
   by_cases hm : k ∈ zn l.l a
   ·refine ⟨false,by simp [hm], ?_⟩
    constructor
    ·intro h; cases h
    ·intro h; exact absurd hm (h k x (Nat.le_refl _) hx2 e)
   ·exact ⟨t,by simpa [hm] using h1,hrest fun _ => hm⟩
  ·rw [if_neg (by simpa using e)]
   exact ⟨t,h1,hrest fun h => absurd h e⟩
theorem zn8 (l : Sl T.Stop) (n : Int) (told : List Int) (ht : told.length < 1000) (hl : l.l.length ≤ 300) : ∀ (d k : Nat),k + d = l.l.length →
  ∃ t : Bool,q71 (l,n,(k : Int),told) = some (if t then .inr () else .inl false) ∧
   (t = true ↔ ∀ a x b y,k ≤ a → l.l[a]? = some x → x.n ≠ n → x.n ∉ told → l.l[b]? = some y → y.n = n → b ∉ zn l.l a) := by
 intro d
 induction d with
 | zero =>
  intro k hk
  refine ⟨true, ?_, ?_⟩
  ·rw [q71.eq_1,if_neg (by simp; omega)]; rfl
  ·simp only [true_iff]
   intro a x b y ha hx
   have := (List.getElem?_eq_some_iff.1 hx).1
   omega
 | succ d ih =>
  intro k hk
  have hkl : k < l.l.length := by omega
  have hx := zi hkl
  have hx2 : l.l[k]? = some l.l[k] := by simp [hkl]
  generalize l.l[k] = x at hx hx2
  have hw : IntKind.i64.wrap ((k : Int) + 1) = ((k + 1 : Nat) : Int) := jl (by omega)
  rw [q71.eq_1,if_pos (by simp; omega)]
  simp only [hx,qh6 x.n told ht,Option.bind_eq_bind,Option.bind_some,hw]
  obtain ⟨t,h1,h2⟩ := ih (k + 1) (by omega)
  have hrest : ∀ (hno : x.n ≠ n → x.n ∉ told → ∀ b y,l.l[b]? = some y → y.n = n → b ∉ zn l.l k),(t = true ↔ ∀ a x b y,k ≤ a → l.l[a]? = some x → x.n ≠ n → x.n ∉ told → l.l[b]? = some y → y.n = n → b ∉ zn l.l a) := by
   intro hno
   rw [h2]
   constructor
   ·intro h a z b y ha hz h3 h4
    by_cases e : a = k
    ·subst e
     rw [hx2] at hz
     cases hz
     exact hno h3 h4 b y
    ·exact h a z b y (by omega) hz h3 h4
   ·intro h a z b y ha
    exact h a z b y (by omega)
  by_cases e : x.n = n
  ·rw [if_pos (by simpa using e)]
   exact ⟨t,h1,hrest fun h => absurd e h⟩
  ·rw [if_neg (by simpa using e)]
   by_cases hm : x.n ∈ told
   ·exact ⟨t,by simpa [hm] using h1,hrest fun _ h => absurd hm h⟩
   ·obtain ⟨t2,h3,h4⟩ := qxr l n k hkl told hl l.l.length 0 (by omega)
    simp only [Int.natCast_zero] at h3
    cases t2 with
    | true =>
     refine ⟨t,by simpa [hm,h3] using h1,hrest fun _ _ b y => h4.1 rfl b y (Nat.zero_le _)⟩
    | false =>
     refine ⟨false,by simp [hm,h3], ?_⟩
     constructor
     ·intro h; cases h
     ·intro h
      have := h4.2 fun b y _ => h k x b y (Nat.le_refl _) hx2 e hm
      cases this
theorem qus (l : Sl T.Stop) (n : Int) (told : List Int) (ht : told.length < 1000) (hl : l.l.length ≤ 300) :
  ∃ t : Bool,qe3 l n told = some t ∧ (t = true ↔ ∀ a x b y,l.l[a]? = some x → x.n ≠ n → x.n ∉ told → l.l[b]? = some y → y.n = n → b ∉ zn l.l a) := by
 obtain ⟨t,h1,h2⟩ := zn8 l n told ht hl l.l.length 0 (by omega)
 simp only [Int.natCast_zero] at h1
 refine ⟨t, ?_,h2.trans ⟨fun h a x b y => h a x b y (Nat.zero_le _),fun h a x b y _ => h a x b y⟩⟩
 unfold qe3
 rw [h1]
 cases t <;> rfl
end Go.Proofs.YtdhgdeelagmbpaaGreat
set_option linter.unusedSimpArgs false
set_option linter.unusedVariables false
namespace Go.Proofs.YtdhgdeelagmbpaaGreat
open Go Go.Gm
open Classical in
noncomputable def frB (l : List T.Stop) (told : List Int) (n : Int) : Bool :=
 decide (∀ a x b y,l[a]? = some x → x.n ≠ n → x.n ∉ told → l[b]? = some y → y.n = n → b ∉ zn l a)
theorem free_eq (l : Sl T.Stop) (n : Int) (told : List Int) (ht : told.length < 1000) (hl : l.l.length ≤ 300) : qe3 l n told = some (frB l.l told n) := by
 obtain ⟨t,h1,h2⟩ := qus l n told ht hl
 rw [h1]
 congr 1
 rw [Bool.eq_iff_iff,h2]
 simp only [frB,decide_eq_true_eq]
theorem z3n (i : T.qj) (hl : i.stops.l.length ≤ 300) : ∀ (d k : Nat) (all_ : Sl Int),k + d = i.stops.l.length → mq all_.l → (∀ x,x ∈ all_.l ↔ x ∈ (i.stops.l.take k).map (·.n)) → all_.l.length ≤ k →
  ∃ r,qbp (all_,(k : Int),i) = some r ∧ mq r.l ∧ (∀ x,x ∈ r.l ↔ x ∈ i.stops.l.map (·.n)) ∧ r.l.length ≤ 300 := by
 intro d
 induction d with
 | zero =>
  intro k all_ hk h1 h2 h3
  obtain rfl : k = i.stops.l.length := by omega
  rw [List.take_length] at h2
  exact ⟨all_,by rw [qbp.eq_1,if_neg (by simp)],h1,h2,by omega⟩
 | succ d ih =>
  intro k all_ hk h1 h2 h3
  have hkl : k < i.stops.l.length := by omega
  have hx := zi hkl
  have ht : i.stops.l.take (k + 1) = i.stops.l.take k ++ [i.stops.l[k]] := by rw [List.take_append_getElem]
  generalize i.stops.l[k] = x at hx ht
  have hw : IntKind.i64.wrap ((k : Int) + 1) = ((k + 1 : Nat) : Int) := jl (by omega)
  obtain ⟨o,g1,g2,g3,g4⟩ := zsv all_ x.n (by omega) h1
  rw [qbp.eq_1,if_pos (by simp; omega)]
  simp only [hx,g1,Option.bind_eq_bind,Option.bind_some,hw]
  refine ih (k + 1) o (by omega) g2 (fun q => ?_) (by omega)
  rw [g3,h2,ht]
  simp [or_comm]
theorem z8l (all_ : Sl Int) (i : T.qj) (told : List Int) (ht : told.length < 1000) (hl : i.stops.l.length ≤ 300) (ha : all_.l.length ≤ 1000) (next : Int) : ∀ (d k : Nat),k + d = all_.l.length →
  q28 (all_,next,false,(k : Int),i,told) = some (match (all_.l.drop k).find? (fun x => decide (x ∉ told) && frB i.stops.l told x) with | some x => (x,true) | none => (next,false)) := by
 intro d
 induction d with
 | zero =>
  intro k hk
  rw [q28.eq_1,if_neg (by simp; omega),List.drop_of_length_le (by omega)]
  rfl
 | succ d ih =>
  intro k hk
  have hkl : k < all_.l.length := by omega
  have hx := zi hkl
  have hd : all_.l.drop k = all_.l[k] :: all_.l.drop (k + 1) := List.drop_eq_getElem_cons hkl
  generalize all_.l[k] = x at hx hd
  have hw : IntKind.i64.wrap ((k : Int) + 1) = ((k + 1 : Nat) : Int) := jl (by omega)
  have hend : q28 (all_,x,true,(k : Int) + 1,i,told) = some (x,true) := by
   rw [q28.eq_1,if_neg (by simp)]
  rw [q28.eq_1,if_pos (by simp; omega),hd,List.find?_cons]
  simp only [hx,qh6 x told ht,free_eq i.stops x told ht hl,Option.bind_eq_bind,Option.bind_some,hw]
  by_cases hm : x ∈ told
  ·simp only [hm,decide_true,Bool.not_true,Bool.false_eq_true,if_false,not_true_eq_false,decide_false,Bool.false_and]
   exact ih (k + 1) (by omega)
  ·cases hf : frB i.stops.l told x with
   | true => simp [hm,hend]
   | false =>
    simp only [hm,decide_false,Bool.not_false,if_true,not_false_eq_true,decide_true,Bool.and_false,Bool.false_eq_true,if_false]
    exact ih (k + 1) (by omega)
theorem zk1 (all_ : Sl Int) (i : T.qj) (told : List Int) (ht : told.length < 1000) (ha : all_.l.length ≤ 1000) (next : Int) : ∀ (d k : Nat),k + d = all_.l.length →
  q39 (all_,next,false,(k : Int),i,told) = some (match (all_.l.drop k).find? (fun x => decide (x ∉ told)) with | some x => x | none => next) := by
 intro d
 induction d with
 | zero =>
  intro k hk
  rw [q39.eq_1,if_neg (by simp; omega),List.drop_of_length_le (by omega)]
  rfl
 | succ d ih =>
  intro k hk
  have hkl : k < all_.l.length := by omega
  have hx := zi hkl
  have hd : all_.l.drop k = all_.l[k] :: all_.l.drop (k + 1) := List.drop_eq_getElem_cons hkl
  generalize all_.l[k] = x at hx hd
  have hw : IntKind.i64.wrap ((k : Int) + 1) = ((k + 1 : Nat) : Int) := jl (by omega)
  have hend : q39 (all_,x,true,(k : Int) + 1,i,told) = some x := by
   rw [q39.eq_1,if_neg (by simp)]
  rw [q39.eq_1,if_pos (by simp; omega),hd,List.find?_cons]
  simp only [hx,qh6 x told ht,Option.bind_eq_bind,Option.bind_some,hw]
  by_cases hm : x ∈ told
  ·simp only [hm,decide_true,Bool.not_true,Bool.false_eq_true,if_false,not_true_eq_false,decide_false]
   exact ih (k + 1) (by omega)
  ·simp [hm,hend]
def q10 (K : List Int) (p : Int → Bool) : Int := match K.find? p with | some x => x | none => K.headD 0
theorem zhg (all_ : Sl Int) (i : T.qj) (told : List Int) (ht : told.length < 1000) (hl : i.stops.l.length ≤ 300) (ha : all_.l.length ≤ 1000) :
  ((q28 (all_,0,false,0,i,told)).bind fun v3 => q39 (all_,v3.1,v3.2,0,i,told)) = some (q10 (all_.l.filter fun x => decide (x ∉ told)) (frB i.stops.l told)) := by
 have h4 := z8l all_ i told ht hl ha 0 all_.l.length 0 (by omega)
 have h6 := zk1 all_ i told ht ha 0 all_.l.length 0 (by omega)
 simp only [Int.natCast_zero,List.drop_zero] at h4 h6
 rw [h4]
 unfold q10
 have hp : (all_.l.filter fun x => decide (x ∉ told)).find? (frB i.stops.l told) = all_.l.find? (fun x => decide (x ∉ told) && frB i.stops.l told x) := by
  rw [List.find?_filter]
  congr 1
  funext a
  by_cases h : a ∈ told <;> cases hh : frB i.stops.l told a <;> simp [h]
 rw [hp]
 cases hf : all_.l.find? (fun x => decide (x ∉ told) && frB i.stops.l told x) with
 | some x =>
  simp only [Option.bind_some]
  rw [q39.eq_1,if_neg (by simp)]
 | none =>
  simp only [Option.bind_some,h6]
  rw [← List.head?_filter]
  cases all_.l.filter fun x => decide (x ∉ told) <;> rfl
theorem zcg (s : Sl Int) (m : qz) (hl : s.l.length < 1000) : ∀ (d k : Nat),k + d = s.l.length →
  (∃ (j : Nat) (x : Int),q3o (s,(s.l.length : Int),(k : Int),m) = some (.inl (j : Int)) ∧ s.l[j]? = some x ∧ (s.l.drop k).find? (fun n => zm m n == 0) = some x) ∨
  (q3o (s,(s.l.length : Int),(k : Int),m) = some (.inr ()) ∧ (s.l.drop k).find? (fun n => zm m n == 0) = none) := by
 intro d
 induction d with
 | zero =>
  intro k hk
  refine .inr ⟨?_, ?_⟩
  ·rw [q3o.eq_1,if_neg (by simp; omega)]
  ·rw [List.drop_of_length_le (by omega)]; rfl
 | succ d ih =>
  intro k hk
  have hkl : k < s.l.length := by omega
  have hx := zi hkl
  have hx2 : s.l[k]? = some s.l[k] := by simp [hkl]
  have hd : s.l.drop k = s.l[k] :: s.l.drop (k + 1) := List.drop_eq_getElem_cons hkl
  generalize s.l[k] = x at hx hd hx2
  have hw : IntKind.i64.wrap ((k : Int) + 1) = ((k + 1 : Nat) : Int) := jl (by omega)
  rw [q3o.eq_1,if_pos (by simp; omega),hd,List.find?_cons]
  simp only [hx,qea,Option.bind_eq_bind,Option.bind_some,hw]
  cases hm : zm m x == 0 with
  | true => exact .inl ⟨k,x,rfl,hx2,rfl⟩
  | false => simpa using ih (k + 1) (by omega)
theorem ze5 {K : List Int} (h : K ≠ []) (p : Int → Bool) : q10 K p ∈ K := by
 unfold q10
 cases hf : K.find? p with
 | some x => exact List.mem_of_find?_eq_some hf
 | none => cases K with
  | nil => exact absurd rfl h
  | cons a r => exact List.mem_cons_self
theorem zby (K : List Int) (m : qz) (hK : K ≠ []) (hl : K.length < 1000) : ∃ v9,qaq ⟨K.isEmpty,K⟩ m = some v9 ∧ qd K (if v9 > (0 : Int) then v9 else (0 : Int)) = some (q10 K fun n => zm m n == 0) := by
 unfold qaq
 have h := zcg ⟨K.isEmpty,K⟩ m hl K.length 0 (by simp)
 simp only [Int.natCast_zero,List.drop_zero] at h
 rcases h with ⟨j,x,h1,h2,h3⟩ | ⟨h1,h2⟩
 ·refine ⟨(j : Int),by simp [h1], ?_⟩
  have e : (if (j : Int) > 0 then (j : Int) else 0) = (j : Int) := by split <;> omega
  rw [e]
  unfold q10
  rw [h3]
  simpa [qd] using h2
 ·refine ⟨-1,by simp [h1], ?_⟩
  unfold q10
  rw [h2]
  cases K with
  | nil => exact absurd rfl hK
  | cons a r => rfl
theorem qwi (l : List T.Stop) (told : List Int) (hold : qz) (B : Nat) (h : Lft hold (qbb l (fun x => x ∈ l.map (·.n) ∧ x ∉ told) l.length) B) : (fun n => zm hold n == 0) = frB l told := by
 funext n
 rw [Bool.eq_iff_iff,beq_iff_eq,(h.get n).2.2]
 simp only [frB,decide_eq_true_eq]
 constructor
 ·intro hn a x b y h1 h2 h3 h4 h5 h6
  exact hn ⟨a,x,b,y,(List.getElem?_eq_some_iff.1 h1).1,h1,⟨List.mem_map.2 ⟨x,List.mem_of_getElem? h1,rfl⟩,h3⟩,h6,h4,h5,fun e => h2 e.symm⟩
 ·rintro hn ⟨a,x,b,y,_,h1,⟨_,h3⟩,h6,h4,h5,h2⟩
  exact hn a x b y h1 (fun e => h2 e.symm) h3 h4 h5 h6
end Go.Proofs.YtdhgdeelagmbpaaGreat
set_option linter.unusedSimpArgs false
set_option linter.unusedVariables false
namespace Go.Proofs.YtdhgdeelagmbpaaGreat
open Go Go.Gm
def w9 (A out : List Int) : List Int := A.filter fun x => decide (x ∉ out)
noncomputable def pz (l : List T.Stop) (A : List Int) : Nat → List Int → List Int
 | 0,out => out
 | d + 1,out => pz l A d (out ++ [q10 (w9 A out) (frB l out)])
theorem qk0 {A out : List Int} {x : Int} : x ∈ w9 A out ↔ x ∈ A ∧ x ∉ out := by simp [w9]
theorem left_step {A out : List Int} {d : Nat} (hA : mq A) (hd : (w9 A out).length = d + 1) (p : Int → Bool) : q10 (w9 A out) p ∈ w9 A out ∧ (w9 A (out ++ [q10 (w9 A out) p])).length = d := by
 generalize hKe : w9 A out = K at hd
 have hKr : mq K := by rw [← hKe]; exact List.Pairwise.filter _ hA
 have hKnd : K.Nodup := hKr.imp fun h => by omega
 have hKne : K ≠ [] := fun e => by rw [e] at hd; simp at hd
 have hxm := ze5 hKne p
 refine ⟨hxm, ?_⟩
 generalize q10 K p = x at hxm
 have : w9 A (out ++ [x]) = K.erase x := by
  rw [hKnd.erase_eq_filter,← hKe,w9,w9,List.filter_filter]
  congr 1
  funext y
  by_cases h1 : y ∈ out <;> by_cases h2 : y = x <;> simp [h1,h2]
 rw [this,List.length_erase_of_mem hxm]
 omega
theorem qte (i : T.qj) (hl : i.stops.l.length ≤ 300) (hn : ∀ x ∈ i.stops.l.map (·.n),inI x) (A : Sl Int) (hA : mq A.l) (hAm : ∀ x,x ∈ A.l ↔ x ∈ i.stops.l.map (·.n)) (hAl : A.l.length ≤ 300) :
  ∀ (d : Nat) (left : qz) (out : List Int),Lft left (fun x => x ∈ i.stops.l.map (·.n) ∧ x ∉ out) 300 → (w9 A.l out).length = d → out.length + d = A.l.length →
  ∃ m,q4m (i,left,out) = some (m,pz i.stops.l A.l d out) ∧ qb8 (A,i,out) = some (pz i.stops.l A.l d out) := by
 intro d
 induction d with
 | zero =>
  intro left out h hd ho
  have hK : w9 A.l out = [] := List.length_eq_zero_iff.1 hd
  have he : left.es = [] := by
   cases hc : left.es with
   | nil => rfl
   | cons e r =>
    have : e.1 ∈ xz left := by simp [xz,hc]
    have h2 := (h.keys _).1 this
    have : e.1 ∈ w9 A.l out := qk0.2 ⟨(hAm _).2 h2.1,h2.2⟩
    rw [hK] at this
    simp at this
  refine ⟨left, ?_, ?_⟩
  ·rw [q4m.eq_1,if_neg (by simp [he])]; rfl
  ·rw [qb8.eq_1,if_neg (by simp; omega)]; rfl
 | succ d ih =>
  intro left out h hd ho
  obtain ⟨hxm,hK2⟩ := left_step hA hd (frB i.stops.l out)
  rw [pz]
  have hKm : ∀ x,x ∈ w9 A.l out ↔ x ∈ i.stops.l.map (·.n) ∧ x ∉ out := fun x => by rw [qk0,hAm]
  have hKr : mq (w9 A.l out) := List.Pairwise.filter _ hA
  have hKne : w9 A.l out ≠ [] := fun e => by rw [e] at hd; simp at hd
  have hKf : (A.l.filter fun x => decide (x ∉ out)) = w9 A.l out := rfl
  have hr := zhg A i out (by omega) hl (by omega)
  rw [hKf] at hr
  generalize w9 A.l out = K at hd hxm hK2 hKm hKr hKne hr
  have hsk : q1o left = some K := by
   rw [qmu h.ok (fun k hk => hn k ((h.keys k).1 hk).1) (by have := h.len; omega)]
   congr 1
   refine qgv (z9y h.ok.kn) hKr fun x => ?_
   rw [hKm,← h.keys]
   exact (qag _).mem_iff
  have hes : 0 < left.es.length := by
   cases hc : left.es with
   | cons => simp
   | nil =>
    obtain ⟨x,hx⟩ := List.exists_mem_of_ne_nil _ hKne
    have := (h.keys x).2 ((hKm x).1 hx)
    simp [xz,hc] at this
  obtain ⟨hold,hw1,hw2⟩ := zuz i hl left _ 300 h
  obtain ⟨v9,h9,h10⟩ := zby K hold hKne (by omega)
  rw [qwi _ out hold _ hw2] at h10
  generalize q10 K (frB i.stops.l out) = x at h10 hr hxm hK2
  have hroom : ql (out.length + 1) 8 = true := qi5 (by omega) (by omega)
  have hdel := qk3 h.ok x
  have hL : Lft (jy left x) (fun y => y ∈ i.stops.l.map (·.n) ∧ y ∉ out ++ [x]) 300 := by
   refine ⟨hdel.1,fun y => ?_,fun e he => h.pos e (z3w he),by have := h.len; omega⟩
   rw [hdel.2.1,h.keys]
   simp [and_assoc]
  obtain ⟨m,g1,g2⟩ := ih (jy left x) (out ++ [x]) hL hK2 (by simp; omega)
  refine ⟨m, ?_, ?_⟩
  ·rw [q4m.eq_1,if_pos (by simpa using hes)]
   simp only [q4t,hsk,hw1,h9,h10,Option.bind_eq_bind,Option.bind_some,hroom,if_true]
   exact g1
  ·rw [qb8.eq_1,if_pos (by simp; omega)]
   rw [Option.bind_eq_some_iff] at hr
   obtain ⟨v3,q1,q2⟩ := hr
   simp only [q1,q2,Option.bind_eq_bind,Option.bind_some,hroom,if_true]
   exact g2
theorem qot (i : T.qj) (hl : i.stops.l.length ≤ 300) (hn : ∀ x ∈ i.stops.l.map (·.n),inI x) : ∃ A : List Int,mq A ∧ (∀ x,x ∈ A ↔ x ∈ i.stops.l.map (·.n)) ∧ A.length ≤ 300 ∧
  q2h i = some ⟨(pz i.stops.l A A.length []).isEmpty,pz i.stops.l A A.length []⟩ ∧ qna i = some ⟨(pz i.stops.l A A.length []).isEmpty,pz i.stops.l A A.length []⟩ := by
 obtain ⟨m,p1,p2⟩ := zbc i hl i.stops.l.length 0 ⟨[],0⟩ (by omega) (mg (qhv _) fun q => by simp)
 obtain ⟨A,q1,q2,q3,q4⟩ := z3n i hl i.stops.l.length 0 ⟨true,[]⟩ (by omega) List.Pairwise.nil (fun x => by simp) (by simp)
 simp only [Int.natCast_zero] at p1 q1
 obtain ⟨m2,g1,g2⟩ := qte i hl hn A q2 q3 q4 A.l.length m [] (mg p2 fun q => by simp) (by simp [w9]) (by simp)
 refine ⟨A.l,q2,q3,q4, ?_, ?_⟩
 ·unfold q2h; simp [p1,g1]
 ·unfold qna; simp [q1,g2]
structure Told (l : List T.Stop) (out : List Int) : Prop where
 nd : out.Nodup
 fr : ∀ (k : Nat) (n : Int),out[k]? = some n → frB l (out.take k) n = true
end Go.Proofs.YtdhgdeelagmbpaaGreat
set_option linter.unusedSimpArgs false
set_option linter.unusedVariables false
namespace Go.Proofs.YtdhgdeelagmbpaaGreat
open Go Go.Gm
end Go.Proofs.YtdhgdeelagmbpaaGreat
set_option linter.unusedSimpArgs false
set_option linter.unusedVariables false
namespace Go.Proofs.YtdhgdeelagmbpaaGreat
open Go Go.Gm
section
variable (l : List T.Stop) (a : Int)
theorem qc7 (k : Nat) : (l.map (zt a))[k]? = (l[k]?).map (zt a) := List.getElem?_map
theorem z4j (u : Nat) : zn (l.map (zt a)) u = zn l u := by
 induction u using Nat.strongRecOn with
 | _ u ih =>
 cases hx : l[u]? with
 | none => rw [zn.eq_1,zn.eq_1,qc7,hx]; rfl
 | some x =>
  have hx2 : (l.map (zt a))[u]? = some (zt a x) := by rw [qc7,hx]; rfl
  by_cases h : 0 ≤ x.up ∧ x.up < u
  ·obtain ⟨p,hp⟩ : ∃ p : Nat,x.up = p := ⟨x.up.toNat,by omega⟩
   rw [nk hx hp (by omega),nk (x := zt a x) hx2 hp (by omega),ih p (by omega)]
  ·rw [q2v hx h,q2v (x := zt a x) hx2 h]
theorem zia (told : List Int) (n : Int) : frB (l.map (zt a)) told n = frB l told n := by
 rw [Bool.eq_iff_iff]
 simp only [frB,decide_eq_true_eq,z4j]
 constructor
 ·intro h p x q y h1 h2 h3 h4 h5
  exact h p (zt a x) q (zt a y) (by rw [qc7,h1]; rfl) h2 h3 (by rw [qc7,h4]; rfl) h5
 ·intro h p x q y h1 h2 h3 h4 h5
  rw [qc7,Option.map_eq_some_iff] at h1 h4
  obtain ⟨x',h1,rfl⟩ := h1
  obtain ⟨y',h4,rfl⟩ := h4
  exact h p x' q y' h1 h2 h3 h4 h5
theorem qjl (A : List Int) : ∀ (d : Nat) (out : List Int),pz (l.map (zt a)) A d out = pz l A d out := by
 intro d
 induction d with
 | zero => intro out; rfl
 | succ d ih => intro out; rw [pz,pz,ih,show frB (l.map (zt a)) out = frB l out from funext (zia l a out)]
theorem qeg : (l.map (zt a)).map (·.n) = l.map (·.n) := by rw [List.map_map]; rfl
end
theorem zhw (i j : T.qj) (l : List T.Stop) (a b : Int) (hi : i.stops.l = l.map (zt a)) (hj : j.stops.l = l.map (zt b)) (hl : l.length ≤ 300) (hn : ∀ x ∈ l.map (·.n),inI x) :
  ∃ r : List Int,r.length ≤ 300 ∧ q2h i = some ⟨r.isEmpty,r⟩ ∧ q2h j = some ⟨r.isEmpty,r⟩ := by
 obtain ⟨A,h1,h2,h3,h4,_⟩ := qot i (by rw [hi]; simpa using hl) (by rw [hi,qeg]; exact hn)
 obtain ⟨B,g1,g2,g3,g4,_⟩ := qot j (by rw [hj]; simpa using hl) (by rw [hj,qeg]; exact hn)
 have e : A = B := qgv h1 g1 fun x => by rw [h2,g2,hi,hj,qeg,qeg]
 subst e
 rw [hi,qjl] at h4
 rw [hj,qjl] at g4
 have hlt : ∀ (d : Nat) (out : List Int),(pz l A d out).length = out.length + d := by
  intro d
  induction d with
  | zero => intro out; rfl
  | succ d ih => intro out; rw [pz,ih]; simp; omega
 exact ⟨_,by rw [hlt]; simpa using h3,h4,g4⟩
def uu (l : List T.Stop) : List Int := (l.filter (fun x => !x.turned)).map (·.n)
def addN (m : qz) (n : Int) : qz := j6 m n (IntKind.i64.wrap (zm m n + 1))
theorem z0n (l : List T.Stop) : (uu l).length ≤ l.length := by
 unfold uu
 rw [List.length_map]
 exact List.length_filter_le _ _
theorem qnf (l : List T.Stop) (a : Int) : uu (l.map (zt a)) = uu l := by
 unfold uu
 rw [List.filter_map,List.map_map]
 rfl
theorem zev (t11 : Sl T.qj) (t12 t13 : Int) (s : Sl T.Stop) (b : T.qj) (hl : s.l.length < 2 ^ 60) : ∀ (n k : Nat) (m : qz),k + n = s.l.length →
  q4d (t11,t12,t13,s,(s.l.length : Int),(k : Int),m,b) = some ((uu (s.l.drop k)).foldl addN m) := by
 intro n
 induction n with
 | zero =>
  intro k m hk
  rw [q4d.eq_1]
  have h1 : ¬ k < s.l.length := by omega
  have h2 : s.l.drop k = [] := by simp; omega
  simp [h1,h2,uu]
 | succ n ih =>
  intro k m hk
  have hkl : k < s.l.length := by omega
  have hx := zi hkl
  have hd := List.drop_eq_getElem_cons hkl
  generalize s.l[k] = x at hx hd
  have hw : IntKind.i64.wrap ((k : Int) + 1) = ((k + 1 : Nat) : Int) := jl (by omega)
  rw [q4d.eq_1,hd]
  simp only [hx,Option.bind_eq_bind,Option.bind_some,hw,ih (k + 1) _ (by omega)]
  cases hq : x.turned <;> simp [hkl,uu,hq,addN]
theorem z9v (t11 : List T.qj) (t12 t13 : Int) (s : Sl T.Stop) (b : T.qj) (hl : s.l.length < 2 ^ 60) : ∀ (n k : Nat) (m : qz),k + n = s.l.length →
  q3i (t12,t13,s,(s.l.length : Int),(k : Int),t11,m,b) = some ((uu (s.l.drop k)).foldl addN m) := by
 intro n
 induction n with
 | zero =>
  intro k m hk
  rw [q3i.eq_1]
  have h1 : ¬ k < s.l.length := by omega
  have h2 : s.l.drop k = [] := by simp; omega
  simp [h1,h2,uu]
 | succ n ih =>
  intro k m hk
  have hkl : k < s.l.length := by omega
  have hx := zi hkl
  have hd := List.drop_eq_getElem_cons hkl
  generalize s.l[k] = x at hx hd
  have hw : IntKind.i64.wrap ((k : Int) + 1) = ((k + 1 : Nat) : Int) := jl (by omega)
  rw [q3i.eq_1,hd]
  simp only [hx,Option.bind_eq_bind,Option.bind_some,hw,ih (k + 1) _ (by omega)]
  cases hq : x.turned <;> simp [hkl,uu,hq,addN]
def q9t (v2 : qz) : Option (List Int) :=
 q4t (jy v2 0) >>= fun _ => q1o (jy v2 0) >>= fun v6 => if (decide ((zm v2 0) > 0)) then if ql (v6.length + 1) 8 = true then some (v6 ++ [0]) else none else some v6
theorem zs7 (i : T.qj) (hl : i.stops.l.length < 2 ^ 60) : q8m ⟨false,[i]⟩ = q9t ((uu i.stops.l).foldl addN ⟨[],0⟩) := by
 have h := zev ⟨false,[i]⟩ 1 0 i.stops i hl i.stops.l.length 0 ⟨[],0⟩ (by omega)
 simp only [Int.natCast_zero,List.drop_zero] at h
 have e : q5n (⟨false,[i]⟩,1,0,⟨[],0⟩) = some ((uu i.stops.l).foldl addN ⟨[],0⟩) := by
  rw [q5n.eq_1,if_pos (by simp),show qd [i] 0 = some i from rfl]
  simp only [Option.bind_eq_bind,Option.bind_some,h]
  rw [q5n.eq_1,if_neg (by decide)]
 unfold q8m q9t
 rw [show (((⟨false,[i]⟩ : Sl T.qj).l.length : Nat) : Int) = 1 from rfl,e]
 rfl
theorem qwb (i : T.qj) (hl : i.stops.l.length < 2 ^ 60) : q9j [i] = q9t ((uu i.stops.l).foldl addN ⟨[],0⟩) := by
 have h := z9v [i] 1 0 i.stops i hl i.stops.l.length 0 ⟨[],0⟩ (by omega)
 simp only [Int.natCast_zero,List.drop_zero] at h
 have e : q5m (1,0,[i],⟨[],0⟩) = some ((uu i.stops.l).foldl addN ⟨[],0⟩) := by
  rw [q5m.eq_1,if_pos (by simp),show qd [i] 0 = some i from rfl]
  simp only [Option.bind_eq_bind,Option.bind_some,h]
  rw [q5m.eq_1,if_neg (by decide)]
 unfold q9j q9t
 rw [show (([i].length : Nat) : Int) = 1 from rfl,e]
 rfl
theorem qx5 (ns : List Int) (hl : ns.length ≤ 300) (hn : ∀ x ∈ ns,inI x) : ∃ out : List Int,q9t (ns.foldl addN ⟨[],0⟩) = some out ∧ out.length ≤ 301 := by
 have key : ∀ (r pre : List Int) (m : qz),pre.length + r.length ≤ 300 → Lft m (fun x => x ∈ pre) pre.length → Lft (r.foldl addN m) (fun x => x ∈ pre ++ r) (pre.length + r.length) := by
  intro r
  induction r with
  | nil => intro pre m _ h; simpa using h
  | cons n r ih =>
   intro pre m hp h
   have := ih (pre ++ [n]) (addN m n) (by simp at hp ⊢; omega) (by
    refine mg (q2w (qgp h (by omega) n) (by simp)) fun x => ?_
    simp [or_comm])
   rw [List.foldl_cons]
   refine q2w (mg this fun x => by simp) (by simp; omega)
 have hL := key ns [] ⟨[],0⟩ (by simpa using hl) (mg (qhv _) fun x => by simp)
 simp only [List.nil_append,List.length_nil,Nat.zero_add] at hL
 generalize ns.foldl addN ⟨[],0⟩ = m at hL
 obtain ⟨d1,d2,d3⟩ := qk3 hL.ok 0
 have hsk : q1o (jy m 0) = some (xw (xz (jy m 0))) := qmu d1 (fun k hkm => hn k ((hL.keys k).1 ((d2 k).1 hkm).1)) (by have := hL.len; omega)
 have hlen : (xw (xz (jy m 0))).length ≤ 300 := by
  rw [(qag _).length_eq]
  have := hL.len
  simp only [xz,List.length_map]
  omega
 unfold q9t
 simp only [q4t,hsk,Option.bind_eq_bind,Option.bind_some]
 split
 ·rw [if_pos (qi5 (by omega) (by omega))]
  exact ⟨_,rfl,by simp; omega⟩
 ·exact ⟨_,rfl,by omega⟩
theorem zgc (a : List Int) (hl : a.length < 2 ^ 60) : qa5 a a = some true := by
 have h : ∀ (d k : Nat),k + d = a.length → q5p ((k : Int),a,a) = some (.inr ()) := by
  intro d
  induction d with
  | zero =>
   intro k hk
   rw [q5p.eq_1,if_neg (by simp; omega)]
  | succ d ih =>
   intro k hk
   have hkl : k < a.length := by omega
   have hx := zi hkl
   generalize a[k] = x at hx
   rw [q5p.eq_1,if_pos (by simp; omega),jl (by omega)]
   simp only [hx,Option.bind_eq_bind,Option.bind_some,bne_self_eq_false,Bool.false_eq_true,if_false]
   exact ih (k + 1) (by omega)
 have := h a.length 0 (by omega)
 simp only [Int.natCast_zero] at this
 unfold qa5
 simp [this]
end Go.Proofs.YtdhgdeelagmbpaaGreat
set_option linter.unusedSimpArgs false
set_option linter.unusedVariables false
namespace Go.Proofs.YtdhgdeelagmbpaaGreat
open Go Go.Gm
theorem zq3 (x n : Int) (hn : 0 < n) (hn2 : n ≤ 1000) : ∃ r : Int,qar x n = some r ∧ 0 ≤ r ∧ r < n := by
 have hw : IntKind.u64.wrap n = n := by
  simp [IntKind.wrap,IntKind.signed,IntKind.bits]
  omega
 have h0 : 0 ≤ IntKind.u64.wrap x := by
  simp [IntKind.wrap,IntKind.signed,IntKind.bits]
  omega
 have h1 : (IntKind.u64.wrap x).tmod n = (IntKind.u64.wrap x) % n := Int.tmod_eq_emod_of_nonneg h0
 have h2 := Int.emod_nonneg (IntKind.u64.wrap x) (show n ≠ 0 by omega)
 have h3 := Int.emod_lt_of_pos (IntKind.u64.wrap x) hn
 refine ⟨(IntKind.u64.wrap x) % n, ?_,h2,h3⟩
 unfold qar
 rw [hw,if_pos (by omega),h1,q9 (by omega) (by omega)]
def uq (n : Int) (l : List T.Stop) : List T.Span := (l.filter (fun x => x.n == n && !x.turned)).map (·.span)
def qac (a : Int) (x : T.Span) : T.Span := ⟨x.frm + a,x.to + a⟩
theorem qsj (n : Int) (l : List T.Stop) : (uq n l).length ≤ l.length := by
 unfold uq
 rw [List.length_map]
 exact List.length_filter_le _ _
theorem zds {n : Int} {l : List T.Stop} {p : T.Span} (h : p ∈ uq n l) : ∃ x ∈ l,x.span = p := by
 unfold uq at h
 obtain ⟨x,hx,rfl⟩ := List.mem_map.1 h
 exact ⟨x,(List.mem_filter.1 hx).1,rfl⟩
theorem qki (n : Int) (l : List T.Stop) (a : Int) : uq n (l.map (zt a)) = (uq n l).map (qac a) := by
 unfold uq
 rw [List.filter_map,List.map_map,List.map_map]
 rfl
theorem z7f (n : Int) (t10 : List T.qj) (t11 t12 : Int) (s : Sl T.Stop) (b : T.qj) (hl : s.l.length < 2 ^ 60) : ∀ (d k : Nat) (out : List T.Span),k + d = s.l.length → out.length + d ≤ 1000000 →
  q3w (n,t11,t12,s,(s.l.length : Int),(k : Int),t10,out,b) = some (out ++ uq n (s.l.drop k)) := by
 intro d
 induction d with
 | zero =>
  intro k out hk ho
  have h2 : s.l.drop k = [] := by simp; omega
  rw [q3w.eq_1,h2,if_neg (by simp; omega)]
  simp [uq]
 | succ d ih =>
  intro k out hk ho
  have hkl : k < s.l.length := by omega
  have hx := zi hkl
  have hd := List.drop_eq_getElem_cons hkl
  generalize s.l[k] = x at hx hd
  have hw : IntKind.i64.wrap ((k : Int) + 1) = ((k + 1 : Nat) : Int) := jl (by omega)
  rw [q3w.eq_1,hd,if_pos (by simpa using hkl)]
  simp only [hx,Option.bind_eq_bind,Option.bind_some,hw]
  cases hq : (x.n == n && !x.turned) with
  | true =>
   rw [if_pos rfl,if_pos (zy (by omega) (by omega)),ih (k + 1) _ (by omega) (by simp; omega)]
   simp [uq,hq]
  | false =>
   rw [if_neg (by simp),ih (k + 1) _ (by omega) (by omega)]
   simp [uq,hq]
theorem qlz (n : Int) (i : T.qj) (hl : i.stops.l.length ≤ 1000) : q9z n [i] = some ⟨(uq n i.stops.l).isEmpty,uq n i.stops.l⟩ := by
 have h := z7f n [i] 1 0 i.stops i (by omega) i.stops.l.length 0 [] (by omega) (by simp; omega)
 simp only [Int.natCast_zero,List.drop_zero,List.nil_append] at h
 have e : q64 (n,1,0,[i],[]) = some (uq n i.stops.l) := by
  rw [q64.eq_1,if_pos (by simp),show qd [i] 0 = some i from rfl]
  simp only [Option.bind_eq_bind,Option.bind_some,h]
  rw [q64.eq_1,if_neg (by decide)]
 unfold q9z
 rw [show (([i].length : Nat) : Int) = 1 from rfl,e]
 rfl
theorem zly (n : Int) (held : Sl Bool) (i j : T.qj) (l : List T.Stop) (a b : Int) (hi : i.stops.l = l.map (zt a)) (hj : j.stops.l = l.map (zt b)) (hl : l.length ≤ 1000) : ∀ (d : Nat),d ≤ l.length → ∀ (of first an : Int),
  ∃ r,gp (n,held,of,first,an,(d : Int) - 1,i) = some r ∧ gp (n,held,of,first,an,(d : Int) - 1,j) = some r := by
 intro d
 induction d with
 | zero =>
  intro _ of first an
  refine ⟨(of,first,an), ?_, ?_⟩ <;> rw [gp.eq_1,if_neg (by simp)]
 | succ d ih =>
  intro hd of first an
  have ih := ih (by omega)
  have hdl : d < l.length := by omega
  have hx : qd i.stops.l (d : Int) = some (zt a l[d]) := by rw [hi,zi (by simpa using hdl)]; simp
  have hy : qd j.stops.l (d : Int) = some (zt b l[d]) := by rw [hj,zi (by simpa using hdl)]; simp
  generalize l[d] = x at hx hy
  have hw : IntKind.i64.wrap ((d : Int) - 1) = (d : Int) - 1 := q9 (by omega) (by omega)
  rw [show ((d + 1 : Nat) : Int) - 1 = (d : Int) by omega,gp.eq_1 n held of first an (d : Int) i,gp.eq_1 n held of first an (d : Int) j]
  simp only [hx,hy,Option.bind_eq_bind,Option.bind_some,hw,zt]
  simp only [show decide ((d : Int) ≥ 0) = true by simp,if_true]
  cases h1 : ((x.n != n) || x.turned) with
  | true => simp only [if_true]; exact ih _ _ _
  | false =>
   simp only [Bool.false_eq_true,if_false]
   by_cases h2 : d < held.l.length
   ·have h2' : decide ((d : Int) < (held.l.length : Int)) = true := by simpa using h2
    simp only [h2',if_true,zi h2,Option.bind_some]
    cases x.first <;> cases held.l[d] <;> simp only [Bool.false_eq_true,if_false,if_true] <;> exact ih _ _ _
   ·have h2' : decide ((d : Int) < (held.l.length : Int)) = false := by simpa using h2
    simp only [h2',Bool.false_eq_true,if_false]
    cases x.first <;> simp only [Bool.false_eq_true,if_false,if_true] <;> exact ih _ _ _
theorem z2s (n : Int) (held : Sl Bool) (i j : T.qj) (l : List T.Stop) (a b : Int) (hi : i.stops.l = l.map (zt a)) (hj : j.stops.l = l.map (zt b)) (hl : l.length ≤ 1000) : ∃ r,q80 i n held = some r ∧ q80 j n held = some r := by
 obtain ⟨r,h1,h2⟩ := zly n held i j l a b hi hj hl l.length (by omega) (-1) (-1) (-1)
 unfold q80
 have e1 : (i.stops.l.length : Int) = l.length := by rw [hi,List.length_map]
 have e2 : (j.stops.l.length : Int) = l.length := by rw [hj,List.length_map]
 rw [e1,e2,q9 (by omega) (by omega),h1,h2]
 simp only [Option.bind_eq_bind,Option.bind_some]
 split
 ·exact ⟨_,rfl,rfl⟩
 ·split
  ·exact ⟨_,rfl,rfl⟩
  ·exact ⟨_,rfl,rfl⟩
theorem zmd (held : Sl Bool) (k i : Int) (h0 : 0 ≤ k) (h1 : k ≤ 1000) (x y : Sl T.Span) (a b : T.qj) (ns r5 : List Int) (r4 r6 r7 : List T.qj) (sp : List T.Span) (hx : x.l = sp.map (qac 3)) (hy : y.l = sp.map (qac (3 + k)))
  (hs : ∀ p ∈ sp,0 ≤ p.frm ∧ p.frm ≤ p.to ∧ p.to ≤ 65536) (hl : sp.length ≤ 1000) : ∀ (d j : Nat),j + d = sp.length → q68 (held,k,i,x,y,(j : Int),a,b,ns,r4,r5,r6,r7) = some (.inr ()) := by
 intro d
 induction d with
 | zero =>
  intro j hj
  rw [q68.eq_1,if_neg (by rw [hx]; simp; omega)]
 | succ d ih =>
  intro j hj
  have hjl : j < sp.length := by omega
  have e1 : qd x.l (j : Int) = some (qac 3 sp[j]) := by rw [hx,zi (by simpa using hjl)]; simp
  have e2 : qd y.l (j : Int) = some (qac (3 + k) sp[j]) := by rw [hy,zi (by simpa using hjl)]; simp
  obtain ⟨b1,b2,b3⟩ := hs sp[j] (List.getElem_mem hjl)
  generalize sp[j] = p at e1 e2 b1 b2 b3
  rw [q68.eq_1,if_pos (by rw [hx]; simp; omega),jl (by omega)]
  simp only [e1,e2,Option.bind_eq_bind,Option.bind_some,qac]
  rw [q9 (by omega) (by omega),q9 (by omega) (by omega),show p.frm + (3 + k) = p.frm + 3 + k by omega,show p.to + (3 + k) = p.to + 3 + k by omega,bne_self_eq_false,bne_self_eq_false]
  exact ih (j + 1) (by omega)
theorem zgx (held : Sl Bool) (k : Int) (h0 : 0 ≤ k) (h1 : k ≤ 1000) (a b : T.qj) (ns r5 : List Int) (r4 : List T.qj) (l : List T.Stop) (ha : a.stops.l = l.map (zt 3)) (hb : b.stops.l = l.map (zt (3 + k)))
  (hs : ∀ x ∈ l,0 ≤ x.span.frm ∧ x.span.frm ≤ x.span.to ∧ x.span.to ≤ 65536) (hl : l.length ≤ 1000) (hn : ns.length ≤ 1000) : ∀ (d i : Nat),i + d = ns.length → q3j (held,k,(i : Int),a,b,ns,r4,r5) = some (.inr ()) := by
 intro d
 induction d with
 | zero =>
  intro i hi
  rw [q3j.eq_1,if_neg (by simp; omega)]
 | succ d ih =>
  intro i hi
  have hil : i < ns.length := by omega
  have hx := zi hil
  generalize ns[i] = n at hx
  obtain ⟨r,s1,s2⟩ := z2s n held a b l _ _ ha hb hl
  have p1 := qlz n a (by rw [ha]; simpa using hl)
  have p2 := qlz n b (by rw [hb]; simpa using hl)
  rw [ha,qki] at p1
  rw [hb,qki] at p2
  have hsl := qsj n l
  have hsp : ∀ p ∈ uq n l,0 ≤ p.frm ∧ p.frm ≤ p.to ∧ p.to ≤ 65536 := by
   intro p hp
   obtain ⟨x,hx,rfl⟩ := zds hp
   exact hs x hx
  have h2 := fun x y hx hy => zmd held k (i : Int) h0 h1 x y a b ns r5 r4 [a] [b] (uq n l) hx hy hsp (by omega) (uq n l).length 0 (by omega)
  simp only [Int.natCast_zero] at h2
  rw [q3j.eq_1,if_pos (by simp; omega),jl (by omega)]
  simp only [hx,p1,p2,s1,s2,Option.bind_eq_bind,Option.bind_some,List.length_map,bne_self_eq_false,Bool.false_eq_true,if_false]
  rw [h2 _ _ rfl rfl]
  exact ih (i + 1) (by omega)
theorem z2i (s : Bytes) (by_ : Int) (held : Sl Bool) : qe8 s by_ held = some true := by
 unfold qe8
 have hw : aw8 = some true := rfl
 split
 ·rw [hw]; rfl
 ·obtain ⟨k,hk,k0,k1⟩ := zq3 by_ 901 (by omega) (by omega)
  obtain ⟨ok,a,st,h1,h2⟩ := zmk s
  rw [hk]
  simp only [Option.bind_eq_bind,Option.bind_some]
  rw [q9 (n := 3 + k) (by omega) (by omega)]
  have g1 := h2 3 (by omega) (by omega)
  have g2 := h2 (3 + k) (by omega) (by omega)
  cases ok with
  | false => rw [g1,g2]; simp [hw]
  | true =>
   have hM := h1 rfl
   obtain ⟨i,hi⟩ : ∃ i,T.qj.mk (T.Span.mk 3 (3 + (a.length : Int))) ⟨false,st.map (zt 3)⟩ = i := ⟨_,rfl⟩
   obtain ⟨j,hj⟩ : ∃ j,T.qj.mk (T.Span.mk (3 + k) (3 + k + (a.length : Int))) ⟨false,st.map (zt (3 + k))⟩ = j := ⟨_,rfl⟩
   rw [if_pos rfl,hi] at g1
   rw [if_pos rfl,hj] at g2
   rw [g1,g2]
   simp only [Option.bind_some,Bool.not_true,Bool.or_self,Bool.false_eq_true,if_false]
   have hil : i.stops.l = st.map (zt 3) := by rw [← hi]
   have hjl : j.stops.l = st.map (zt (3 + k)) := by rw [← hj]
   have his : i.span = ⟨3,3 + (a.length : Int)⟩ := by rw [← hi]
   have hjs : j.span = ⟨3 + k,3 + k + (a.length : Int)⟩ := by rw [← hj]
   have hidx : q30 i := hi ▸ hM.idx 3
   have hjdx : q30 j := hj ▸ hM.idx (3 + k)
   have hlen := hM.len
   have hmany := hM.many
   have hin : ∀ x ∈ st.map (·.n),inI x := by
    intro n hn
    obtain ⟨x,hx,rfl⟩ := List.mem_map.1 hn
    have := hM.n x hx
    unfold inI
    omega
   obtain ⟨H,hL,_⟩ := hM.lay
   have hsp : ∀ x ∈ st,0 ≤ x.span.frm ∧ x.span.frm ≤ x.span.to ∧ x.span.to ≤ 65536 := by
    intro x hx
    have := qp0 hL (by omega) x hx
    omega
   obtain ⟨t1,m1,m2⟩ := qg9 i (by rw [hil,List.length_map]; omega) i.span.to
   obtain ⟨t2,m3,m4⟩ := qg9 j (by rw [hjl,List.length_map]; omega) (i.span.to + k)
   obtain ⟨t3,m5,m6⟩ := qg9 j (by rw [hjl,List.length_map]; omega) i.span.to
   have u1 : t1 = true := m2.2 ⟨by rw [his]; simp only; omega,hidx⟩
   have u2 : t2 = true := m4.2 ⟨by rw [his,hjs]; simp only; omega,hjdx⟩
   subst u1 u2
   obtain ⟨r,r1,r2,r3⟩ := zhw i j st 3 (3 + k) hil hjl (by omega) hin
   have hnl := z0n st
   obtain ⟨out,o1,o2⟩ := qx5 (uu st) (by omega) (by
    intro n hn
    unfold uu at hn
    obtain ⟨x,hx,rfl⟩ := List.mem_map.1 hn
    exact hin _ (List.mem_map.2 ⟨x,(List.mem_filter.1 hx).1,rfl⟩))
   have n1 := zs7 i (by rw [hil,List.length_map]; omega)
   have n2 := qwb j (by rw [hjl,List.length_map]; omega)
   rw [hil,qnf,o1] at n1
   rw [hjl,qnf,o1] at n2
   have hl0 := zgx held k (by omega) (by omega) i j out out [j] st hil hjl hsp (by omega) (by omega) out.length 0 (by omega)
   simp only [Int.natCast_zero] at hl0
   have hwk : IntKind.i64.wrap (i.span.to + k) = i.span.to + k := by rw [his]; exact q9 (by simp only; omega) (by simp only; omega)
   simp only [m1,hwk,m3,m5,n1,n2,r2,r3,Option.bind_some,Bool.not_true,Bool.false_eq_true,if_false,zgc out (by omega),zhi ⟨r.isEmpty,r⟩ ⟨r.isEmpty,r⟩ rfl (by simp only; omega),hl0,hw]
   split
   ·rename_i hc
    have u3 : t3 = false := by
     cases t3 with
     | false => rfl
     | true =>
      have := (m6.1 rfl).1.2.2
      simp only [decide_eq_true_eq] at hc
      omega
    subst u3
    simp
   ·rfl
end Go.Proofs.YtdhgdeelagmbpaaGreat
