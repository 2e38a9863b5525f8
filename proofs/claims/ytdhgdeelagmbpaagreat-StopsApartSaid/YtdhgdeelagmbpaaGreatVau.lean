/-
  A snippet's instance; two of its stops.
-/
import Derived.Test.YtdhgdeelagmbpaaGreatVat
set_option linter.unusedSimpArgs false
set_option linter.unusedVariables false
namespace Go.Proofs.YtdhgdeelagmbpaaGreat
open Go Go.Gm
theorem qd7 {x z : T.Stop} {kids rest : List T.Stop} {k : Nat} (h : (x :: (kids ++ rest))[k]? = some z) : (k = 0 ∧ z = x) ∨ (∃ i,k = i + 1 ∧ kids[i]? = some z) ∨ (∃ i,k = i + 1 + kids.length ∧ rest[i]? = some z) := by
 cases k with
 | zero => simp at h; exact .inl ⟨rfl,h.symm⟩
 | succ k =>
  simp only [List.getElem?_cons_succ] at h
  by_cases hk : k < kids.length
  ·rw [List.getElem?_append_left hk] at h
   exact .inr (.inl ⟨k,rfl,h⟩)
  ·rw [List.getElem?_append_right (by omega)] at h
   exact .inr (.inr ⟨k - kids.length,by omega,h⟩)
theorem qg5 {x z : T.Stop} {kids rest : List T.Stop} {i : Nat} (h : kids[i]? = some z) : (x :: (kids ++ rest))[i + 1]? = some z := by
 have hi := (List.getElem?_eq_some_iff.1 h).1
 simp only [List.getElem?_cons_succ]
 rw [List.getElem?_append_left hi]
 exact h
theorem qh2 {x z : T.Stop} {kids rest : List T.Stop} {i : Nat} (h : rest[i]? = some z) : (x :: (kids ++ rest))[i + 1 + kids.length]? = some z := by
 rw [show i + 1 + kids.length = (kids.length + i) + 1 by omega]
 simp only [List.getElem?_cons_succ]
 rw [List.getElem?_append_right (by omega)]
 simpa using h
structure zja (up lo hi : Int) (b : Nat) (l : List T.Stop) (k : Nat) (x : T.Stop) : Prop where
 lo : lo ≤ x.span.frm
 le : x.span.frm ≤ x.span.to
 hi : x.span.to ≤ hi
 ins : x.up = up ∨ ∃ (q : Nat) (y : T.Stop),x.up = ((b + q : Nat) : Int) ∧ q < k ∧ l[q]? = some y ∧ y.span.frm ≤ x.span.frm ∧ x.span.to ≤ y.span.to
 sib : ∀ (j : Nat) (y : T.Stop),j < k → l[j]? = some y → y.up = x.up → y.span.to ≤ x.span.frm
theorem Lay.in_ {H : Int → Int → Prop} {up lo hi : Int} {b : Nat} {l : List T.Stop} (h : Lay H up lo hi b l) : up < b → ∀ (k : Nat) (x : T.Stop),l[k]? = some x → zja up lo hi b l k x := by
 induction h with
 | nil => intro _ k x hx; simp at hx
 | cons up lo hi b x kids rest hu h1 h2 hH hk hr ihk ihr =>
  intro hub k z hz
  have ihk := ihk (by omega)
  have ihr := ihr (by omega)
  have hkl : ∀ (i : Nat) (y : T.Stop),kids[i]? = some y → i < kids.length := fun i y h => (List.getElem?_eq_some_iff.1 h).1
  have hrle := hr.le
  have kup : ∀ (i : Nat) (y : T.Stop),kids[i]? = some y → (b : Int) ≤ y.up ∧ y.up < b + 1 + kids.length := by
   intro i y h
   have := hkl i y h
   rcases (ihk i y h).ins with e | ⟨q,w,e,q1,_⟩ <;> omega
  have rup : ∀ (i : Nat) (y : T.Stop),rest[i]? = some y → y.up = up ∨ (b : Int) + 1 + kids.length ≤ y.up := by
   intro i y h
   rcases (ihr i y h).ins with e | ⟨q,w,e,q1,_⟩
   ·exact .inl e
   ·right; omega
  rcases qd7 hz with ⟨rfl,rfl⟩ | ⟨i,rfl,hi⟩ | ⟨i,rfl,hi⟩
  ·exact ⟨h1,h2,hrle,.inl hu,fun j y hj => by omega⟩
  ·have q := ihk i z hi
   refine ⟨by have := q.lo; omega,q.le,by have := q.hi; omega, ?_, ?_⟩
   ·rcases q.ins with e | ⟨p,y,e,p1,p2,p3⟩
    ·exact .inr ⟨0,x,by simpa using e,by omega,by simp,q.lo,q.hi⟩
    ·exact .inr ⟨p + 1,y,by rw [e]; omega,by omega,qg5 p2,p3⟩
   ·intro j y hj hy hup
    rcases qd7 hy with ⟨rfl,rfl⟩ | ⟨i',rfl,hi'⟩ | ⟨i',rfl,hi'⟩
    ·have := kup i z hi; omega
    ·exact q.sib i' y (by omega) hi' hup
    ·have := hkl i z hi; omega
  ·have q := ihr i z hi
   refine ⟨by have := q.lo; omega,q.le,q.hi, ?_, ?_⟩
   ·rcases q.ins with e | ⟨p,y,e,p1,p2,p3⟩
    ·exact .inl e
    ·exact .inr ⟨p + 1 + kids.length,y,by rw [e]; omega,by omega,qh2 p2,p3⟩
   ·intro j y hj hy hup
    rcases qd7 hy with ⟨rfl,rfl⟩ | ⟨i',rfl,hi'⟩ | ⟨i',rfl,hi'⟩
    ·exact q.lo
    ·have a1 := kup i' y hi'
     have a2 := rup i z hi
     omega
    ·exact q.sib i' y (by omega) hi' hup
section
variable {H : Int → Int → Prop} {L : List T.Stop}
theorem Lay.last {up lo hi : Int} {b : Nat} {l : List T.Stop} (h : Lay H up lo hi b l) : ∀ p : Nat,up = p → p < b → (∀ (k : Nat) (x : T.Stop),l[k]? = some x → L[b + k]? = some x) → l ≠ [] → p ∈ xc L (b + l.length - 1) := by
 induction h with
 | nil => intro _ _ _ _ h; exact absurd rfl h
 | cons up lo hi b x kids rest hu h1 h2 hH hk hr ihk ihr =>
  intro p hp hpb hL _
  have hLb : L[b]? = some x := by simpa using hL 0 x (by simp)
  have hb : p ∈ xc L b := by rw [q2f hLb (hu.trans hp) hpb]; exact List.mem_cons_self
  have hLk : ∀ (i : Nat) (y : T.Stop),kids[i]? = some y → L[b + 1 + i]? = some y := fun i y h => by
   have := hL (i + 1) y (qg5 h)
   rwa [show b + (i + 1) = b + 1 + i by omega] at this
  have hLr : ∀ (i : Nat) (y : T.Stop),rest[i]? = some y → L[b + 1 + kids.length + i]? = some y := fun i y h => by
   have := hL _ y (qh2 h)
   rwa [show b + (i + 1 + kids.length) = b + 1 + kids.length + i by omega] at this
  have e : b + (x :: (kids ++ rest)).length - 1 = b + kids.length + rest.length := by simp; omega
  rw [e]
  by_cases hre : rest = []
  ·subst hre
   by_cases hke : kids = []
   ·subst hke; simpa using hb
   ·have := ihk b rfl (by omega) hLk hke
    rw [show b + 1 + kids.length - 1 = b + kids.length by omega] at this
    exact qdo hb _ (by simpa using this)
  ·have := ihr p hp (by omega) hLr hre
   have hl : 0 < rest.length := List.length_pos_iff.2 hre
   rwa [show b + 1 + kids.length + rest.length - 1 = b + kids.length + rest.length by omega] at this
theorem Lay.placed {up lo hi : Int} {b : Nat} {l : List T.Stop} (h : Lay H up lo hi b l) : (up = -1 ∨ ∃ p : Nat,up = p ∧ p < b ∧ (p = b - 1 ∨ p ∈ xc L (b - 1))) → (∀ (k : Nat) (x : T.Stop),l[k]? = some x → L[b + k]? = some x) →
  ∀ (k : Nat) (x : T.Stop),l[k]? = some x → q6u L (b + k) x := by
 induction h with
 | nil => intro _ _ k x hx; simp at hx
 | cons up lo hi b x kids rest hu h1 h2 hH hk hr ihk ihr =>
  intro hup hL k z hz
  have hLb : L[b]? = some x := by simpa using hL 0 x (by simp)
  have hLk : ∀ (i : Nat) (y : T.Stop),kids[i]? = some y → L[b + 1 + i]? = some y := fun i y h => by
   have := hL (i + 1) y (qg5 h)
   rwa [show b + (i + 1) = b + 1 + i by omega] at this
  have hLr : ∀ (i : Nat) (y : T.Stop),rest[i]? = some y → L[b + 1 + kids.length + i]? = some y := fun i y h => by
   have := hL _ y (qh2 h)
   rwa [show b + (i + 1 + kids.length) = b + 1 + kids.length + i by omega] at this
  rcases qd7 hz with ⟨rfl,rfl⟩ | ⟨i,rfl,hi⟩ | ⟨i,rfl,hi⟩
  ·rcases hup with h | ⟨p,p1,p2,p3⟩
   ·exact .inl (hu.trans h)
   ·exact .inr ⟨p,hu.trans p1,by omega,p3⟩
  ·rw [show b + (i + 1) = b + 1 + i by omega]
   exact ihk (.inr ⟨b,rfl,by omega,.inl rfl⟩) hLk i z hi
  ·rw [show b + (i + 1 + kids.length) = b + 1 + kids.length + i by omega]
   refine ihr ?_ hLr i z hi
   rcases hup with h | ⟨p,p1,p2,p3⟩
   ·exact .inl h
   ·refine .inr ⟨p,p1,by omega,.inr ?_⟩
    have hb : p ∈ xc L b := by rw [q2f hLb (hu.trans p1) p2]; exact List.mem_cons_self
    by_cases hke : kids = []
    ·subst hke; simpa using hb
    ·have := hk.last b rfl (by omega) hLk hke
     exact qdo hb _ this
end
def q21 (a : Int) (x : T.Stop) : T.Stop := { x with span := ⟨x.span.frm + a,x.span.to + a⟩ }
theorem Lay.shift {H : Int → Int → Prop} {up lo hi : Int} {b : Nat} {l : List T.Stop} (h : Lay H up lo hi b l) (a : Int) : Lay H up (lo + a) (hi + a) b (l.map (q21 a)) := by
 induction h with
 | nil up lo hi b h => exact .nil _ _ _ _ (by omega)
 | cons up lo hi b x kids rest hu h1 h2 hH hk hr ihk ihr =>
  rw [List.map_cons,List.map_append]
  refine .cons up (lo + a) (hi + a) b (q21 a x) _ _ hu ?_ ?_ (fun y hy => ?_) ihk ?_
  ·simp only [q21]; omega
  ·simp only [q21]; omega
  ·obtain ⟨z,hz,rfl⟩ := List.mem_map.1 hy
   exact hH z hz
  ·simp only [List.length_map]; exact ihr
theorem Lay.idx {H : Int → Int → Prop} {i : T.zf} (h : Lay H (-1) i.span.frm i.span.to 0 i.stops.l) : q51 i := by
 intro k x hx
 have hin := h.in_ (by omega) k x hx
 have hpl := h.placed (L := i.stops.l) (.inl rfl) (fun k x h => by simpa using h) k x hx
 rw [Nat.zero_add] at hpl
 refine ⟨hpl,hin.le,fun _ => ⟨hin.lo,hin.hi⟩,fun v y hv hy => ?_,hin.sib⟩
 rcases hin.ins with e | ⟨q,z,e,_,q2,q3⟩
 ·omega
 ·have : v = q := by omega
  subst this
  rw [q2] at hy
  cases hy
  exact q3
end Go.Proofs.YtdhgdeelagmbpaaGreat
set_option linter.unusedSimpArgs false
set_option linter.unusedVariables false
namespace Go.Proofs.YtdhgdeelagmbpaaGreat
open Go Go.Gm
section
variable {i : T.zf} (h : q51 i)
include h
theorem q51.between {w : Nat} : ∀ j,w ∈ xc i.stops.l j → ∀ a,w < a → a ≤ j → w ∈ xc i.stops.l a := by
 intro j
 induction j with
 | zero => intro hw; have := qg2 _ _ _ hw; omega
 | succ j ih =>
  intro hw a h1 h2
  rcases Nat.eq_or_lt_of_le h2 with rfl | h2
  ·exact hw
  cases hx : i.stops.l[j + 1]? with
  | none => rw [xc.eq_1,hx] at hw; simp at hw
  | some x =>
   obtain ⟨p,p1,p2,p3⟩ := qi0 hx hw
   refine ih ?_ a h1 (by omega)
   rcases (h _ _ hx).pl with e | ⟨v,e,_,v2⟩
   ·omega
   ·have : p = v := by omega
    subst this
    simp only [Nat.add_sub_cancel] at v2
    rcases v2 with rfl | v2
    ·rcases p3 with rfl | p3
     ·omega
     ·exact p3
    ·rcases p3 with rfl | p3
     ·exact v2
     ·exact qdo p3 _ v2
theorem q51.inside : ∀ (j w : Nat) (x y : T.Stop),i.stops.l[j]? = some x → i.stops.l[w]? = some y → w ∈ xc i.stops.l j → y.span.frm ≤ x.span.frm ∧ x.span.to ≤ y.span.to := by
 intro j
 induction j using Nat.strongRecOn with
 | _ j ih =>
 intro w x y hx hy hw
 obtain ⟨p,p1,p2,p3⟩ := qi0 hx hw
 rcases p3 with rfl | p3
 ·exact (h _ _ hx).ins w y p1 hy
 ·have hj := (List.getElem?_eq_some_iff.1 hx).1
  have hz : i.stops.l[p]? = some i.stops.l[p] := by simp [show p < i.stops.l.length by omega]
  generalize i.stops.l[p] = z at hz
  have a1 := (h _ _ hx).ins p z p1 hz
  have a2 := ih p p2 w z y hz hy p3
  omega
theorem q51.side {w : Int} : ∀ (a : Nat) (x : T.Stop),i.stops.l[a]? = some x → (w = -1 ∨ ∃ q : Nat,w = q ∧ q ∈ xc i.stops.l a) → ∃ (s : Nat) (y : T.Stop),(s = a ∨ s ∈ xc i.stops.l a) ∧ i.stops.l[s]? = some y ∧ y.up = w := by
 intro a
 induction a using Nat.strongRecOn with
 | _ a ih =>
 intro x hx hw
 by_cases e : x.up = w
 ·exact ⟨a,x,.inl rfl,hx,e⟩
 have hl := (h _ _ hx).pl.lt
 have hj := (List.getElem?_eq_some_iff.1 hx).1
 have hp : ∃ p : Nat,x.up = p := by
  rcases hw with rfl | ⟨q,rfl,hq⟩
  ·exact ⟨x.up.toNat,by omega⟩
  ·obtain ⟨p,p1,_⟩ := qi0 hx hq
   exact ⟨p,p1⟩
 obtain ⟨p,hp⟩ := hp
 have hz : i.stops.l[p]? = some i.stops.l[p] := by simp [show p < i.stops.l.length by omega]
 generalize i.stops.l[p] = z at hz
 obtain ⟨s,y,s1,s2,s3⟩ := ih p (by omega) z hz (by
  rcases hw with rfl | ⟨q,rfl,hq⟩
  ·exact .inl rfl
  ·refine .inr ⟨q,rfl, ?_⟩
   rw [q2f hx hp (by omega)] at hq
   rcases List.mem_cons.1 hq with rfl | hq
   ·exact absurd hp e
   ·exact hq)
 refine ⟨s,y,.inr ?_,s2,s3⟩
 rw [q2f hx hp (by omega)]
 exact List.mem_cons.2 s1
theorem q51.apart {a m b : Nat} {x y z : T.Stop} (ha : i.stops.l[a]? = some x) (hm : i.stops.l[m]? = some y) (hb : i.stops.l[b]? = some z) (hmb : m = b ∨ m ∈ xc i.stops.l b) (ham : a < m) (hup : y.up < a) : x.span.to ≤ z.span.frm := by
 have hin : y.span.frm ≤ z.span.frm := by
  rcases hmb with rfl | hmb
  ·rw [hm] at hb; cases hb; exact Int.le_refl _
  ·exact (h.inside b m z y hb hm hmb).1
 obtain ⟨s,t,s1,s2,s3⟩ := h.side (w := y.up) a x ha (by
  rcases (h _ _ hm).pl with e | ⟨v,e,_,v2⟩
  ·exact .inl e
  ·refine .inr ⟨v,e, ?_⟩
   have : v ∈ xc i.stops.l m := by rw [q2f hm e (by omega)]; exact List.mem_cons_self
   exact h.between m this a (by omega) (by omega))
 have hsm : s < m := by
  rcases s1 with rfl | s1
  ·exact ham
  ·have := qg2 _ _ _ s1; omega
 have a1 := (h _ _ hm).sib s t hsm s2 s3
 have a2 : x.span.to ≤ t.span.to := by
  rcases s1 with rfl | s1
  ·rw [ha] at s2; cases s2; exact Int.le_refl _
  ·exact (h.inside a s x t ha s2 s1).2
 omega
theorem qy8 (a b : Nat) (z : T.Stop) (hb : i.stops.l[b]? = some z) : ∀ (m : Nat) (y : T.Stop),i.stops.l[m]? = some y → (m = b ∨ m ∈ xc i.stops.l b) → a < m →
  Tot (q7p ((b : Int),(a : Int),y.up,(m : Int),i)) (fun v => ∃ (m' : Nat) (y' : T.Stop),i.stops.l[m']? = some y' ∧ (m' = b ∨ m' ∈ xc i.stops.l b) ∧ a < m' ∧ v = y'.up ∧ v ≤ a) := by
 intro m
 induction m using Nat.strongRecOn with
 | _ m ih =>
 intro y hy hm ham
 rw [q7p.eq_1]
 have hl := (h _ _ hy).pl.lt
 have hj := (List.getElem?_eq_some_iff.1 hy).1
 (apply Tot.ite <;> intro hT <;> try simp (disch := omega) only [tfx.down,q9,qa] at hT)
 ·have hc := hT
  obtain ⟨p,hp⟩ : ∃ p : Nat,y.up = p := ⟨y.up.toNat,by omega⟩
  have hpl : p < i.stops.l.length := by omega
  have hz := xw hpl
  have hz2 : i.stops.l[p]? = some i.stops.l[p] := by simp [hpl]
  generalize i.stops.l[p] = w at hz hz2
  rw [hp]
  refine Tot.go hz (ih p (by omega) w hz2 (.inr ?_) (by omega))
  have hpm : p ∈ xc i.stops.l m := by rw [q2f hy hp (by omega)]; exact List.mem_cons_self
  rcases hm with rfl | hm
  ·exact hpm
  ·exact qdo hpm _ hm
 ·exact .ret ⟨m,y,hy,hm,ham,rfl,by omega⟩
theorem qwn (b : Nat) (z : T.Stop) (hb : i.stops.l[b]? = some z) (hbl : b < 2 ^ 60) : ∀ (d a : Nat),a + d = b → Tot (q4b ((b : Int),(a : Int),i)) (fun v => v = .inr ()) := by
 have hj := (List.getElem?_eq_some_iff.1 hb).1
 have hg := xw hj
 have ez : i.stops.l[b] = z := (List.getElem?_eq_some_iff.1 hb).2
 rw [ez] at hg
 intro d
 induction d with
 | zero =>
  intro a hd
  rw [q4b.eq_1,if_neg (by simp; omega)]
  exact .ret rfl
 | succ d ih =>
  intro a hd
  have hal : a < i.stops.l.length := by omega
  have hx := xw hal
  have hx2 : i.stops.l[a]? = some i.stops.l[a] := by simp [hal]
  generalize i.stops.l[a] = x at hx hx2
  rw [q4b.eq_1,if_pos (by simp; omega),q2y (by omega)]
  refine Tot.go hg (Tot.bind (qy8 h a b z hb b z hb (.inl rfl) (by omega)) fun v hv => ?_)
  obtain ⟨m,y,m1,m2,m3,m4,m5⟩ := hv
  refine Tot.go hx (Tot.go (by unfold qdf; rfl) ?_)
  refine Tot.ite (fun hT => ?_) fun hT => ih (a + 1) (by omega)
  exfalso
  simp only [Bool.and_eq_true,decide_eq_true_eq,bne_iff_ne,ne_eq] at hT
  have := h.apart hx2 m1 hb m2 m3 (by omega)
  have e1 := (h _ _ hx2).le
  have e2 := (h _ _ hb).le
  obtain ⟨hT,_⟩ := hT
  split at hT <;> split at hT <;> omega
theorem za1 (hl : i.stops.l.length < 2 ^ 60) : ∀ (d b : Nat),b + d = i.stops.l.length → Tot (q4x ((b : Int),i)) (fun v => v = .inr ()) := by
 intro d
 induction d with
 | zero =>
  intro b hd
  rw [q4x.eq_1,if_neg (by simp; omega)]
  exact .ret rfl
 | succ d ih =>
  intro b hd
  have hbl : b < i.stops.l.length := by omega
  have hx2 : i.stops.l[b]? = some i.stops.l[b] := by simp [hbl]
  generalize i.stops.l[b] = x at hx2
  rw [q4x.eq_1,if_pos (by simp; omega),q2y (by omega)]
  refine Tot.bind (qwn h b x hx2 (by omega) b 0 (by omega)) fun v hv => ?_
  subst hv
  exact ih (b + 1) (by omega)
theorem qjp (hl : i.stops.l.length < 2 ^ 60) : q42 i = some true := by
 obtain ⟨v,hv,rfl⟩ := za1 h hl i.stops.l.length 0 (by omega)
 simp only [Int.natCast_zero] at hv
 unfold q42
 rw [hv]
 rfl
end
end Go.Proofs.YtdhgdeelagmbpaaGreat
set_option linter.unusedSimpArgs false
set_option linter.unusedVariables false
namespace Go.Proofs.YtdhgdeelagmbpaaGreat
open Go Go.Gm
theorem zc1 {up lo hi : Int} {H : Int → Int → Prop} {b : Nat} {l : List T.Stop} (h : Lay H up lo hi b l) (hub : up < b) : ∀ x ∈ l,lo ≤ x.span.frm ∧ x.span.frm ≤ x.span.to ∧ x.span.to ≤ hi := by
 intro x hx
 obtain ⟨k,hk⟩ := List.mem_iff_getElem?.1 hx
 have := h.in_ hub k x hk
 exact ⟨this.lo,this.le,this.hi⟩
theorem zqt (at_ : Int) (h0 : 0 ≤ at_) (h1 : at_ ≤ 1000) (p : Sl T.Stop) (hp : ∀ x ∈ p.l,0 ≤ x.span.frm ∧ x.span.frm ≤ x.span.to ∧ x.span.to ≤ 65536) (hm : p.l.length ≤ 257) (t : T.zf) (e1 e2 : Int) :
  ∀ (d k : Nat) (out : List T.Stop),k + d = p.l.length → out = (p.l.take k).map (q21 at_) → q4n (at_,p,(k : Int),t,e1,e2,out) = some (p.l.map (q21 at_)) := by
 intro d
 induction d with
 | zero =>
  intro k out hk ho
  rw [q4n.eq_1,if_neg (by simp; omega),ho,show k = p.l.length by omega,List.take_length]
 | succ d ih =>
  intro k out hk ho
  have hkl : k < p.l.length := by omega
  have hx := xw hkl
  have hx2 : p.l[k]? = some p.l[k] := by simp [hkl]
  generalize p.l[k] = x at hx hx2
  obtain ⟨a1,a2,a3⟩ := hp x (List.mem_of_getElem? hx2)
  have hol : out.length = k := by rw [ho]; simp; omega
  rw [q4n.eq_1,if_pos (by simp; omega),q2y (by omega)]
  simp only [hx,Option.bind_eq_bind,Option.bind_some]
  rw [if_pos (zt (by omega) (by omega)),q9 (by omega) (by omega),q9 (by omega) (by omega)]
  refine ih (k + 1) _ (by omega) ?_
  rw [List.take_add_one,hx2,List.map_append,ho]
  rfl
theorem ze8 : q9j ⟨true,[]⟩ [] [] := ⟨by simp,by simp,by simp,by simp⟩
theorem zdt (s : Bytes) : ∃ (ok : Bool) (a : Bytes) (st : List T.Stop),(ok = true → qe5 a st) ∧ ∀ at_ : Int,0 ≤ at_ → at_ ≤ 1000 → q9c s at_ = some (if ok then (T.zf.mk ⟨at_,at_ + a.length⟩ ⟨false,st.map (q21 at_)⟩,true) else (T.zf.mk ⟨0,0⟩ ⟨true,[]⟩,false)) := by
 obtain ⟨v,hv,hv1,_⟩ := qs4 s
 obtain ⟨r,hr,hr1⟩ := zb9 ze8 v.1 hv1
 by_cases hc : v.2 = 0 ∧ r.2.2 = 0
 ·have hM := hr1 hc.2
  refine ⟨true,r.1,r.2.1.l,fun _ => hM,fun at_ h0 h1 => ?_⟩
  obtain ⟨H,hL,_⟩ := hM.lay
  have hsp : ∀ x ∈ r.2.1.l,0 ≤ x.span.frm ∧ x.span.frm ≤ x.span.to ∧ x.span.to ≤ 65536 := by
   intro x hx
   have := zc1 hL (by omega) x hx
   have := hM.len
   omega
  have hlen := hM.len
  unfold q9c
  simp only [hv,hr,hc.1,hc.2,Option.bind_eq_bind,Option.bind_some]
  have := zqt at_ h0 h1 r.2.1 hsp hM.many.2 (T.zf.mk ⟨0,0⟩ ⟨true,[]⟩) at_ (IntKind.i64.wrap (at_ + (r.1.length : Int))) r.2.1.l.length 0 [] (by omega) (by simp)
  simp only [Int.natCast_zero] at this
  simp only [bne_self_eq_false,Bool.or_self,Bool.false_eq_true,if_false,this,Option.bind_some,if_true]
  rw [q9 (by omega) (by omega)]
  have hne : (r.2.1.l.map (q21 at_)).isEmpty = false := by
   have := hM.many.1
   cases h : r.2.1.l with
   | nil => rw [h] at this; simp at this
   | cons => rfl
  rw [hne]
 ·refine ⟨false,[],[],by simp,fun at_ h0 h1 => ?_⟩
  unfold q9c
  simp only [hv,hr,Option.bind_eq_bind,Option.bind_some]
  rw [if_pos (by simp only [Bool.or_eq_true,bne_iff_ne,ne_eq]; omega)]
  rfl
theorem qe5.idx {a : Bytes} {st : List T.Stop} (h : qe5 a st) (at_ : Int) : q51 ⟨⟨at_,at_ + a.length⟩,⟨false,st.map (q21 at_)⟩⟩ := by
 obtain ⟨H,hL,_⟩ := h.lay
 have := hL.shift at_
 refine Lay.idx (H := H) ?_
 rw [Int.zero_add,Int.add_comm] at this
 exact this
theorem zbo (i : T.zf) (n : Int) (s : Bytes) : qdi i n s = some true := by
 unfold qdi
 have hw : aw8 = some true := rfl
 split
 ·rw [hw]; rfl
 ·rename_i hc
  simp only [Bool.or_eq_true,decide_eq_true_eq,not_or] at hc
  have hl : i.stops.l.length < 2 ^ 60 := by omega
  obtain ⟨ok,a,st,h1,h2⟩ := zdt s
  obtain ⟨t,t1,t2⟩ := z6g i hl n
  simp only [h2 1 (by omega) (by omega),t1,Option.bind_eq_bind,Option.bind_some,hw]
  have hi : t = true → q42 i = some true := fun h => qjp (t2.1 h).2 hl
  have hm : ok = true → q42 ⟨⟨1,1 + a.length⟩,⟨false,st.map (q21 1)⟩⟩ = some true := fun h => qjp ((h1 h).idx 1) (by simp; have := (h1 h).many; omega)
  cases t <;> cases ok <;> simp_all
end Go.Proofs.YtdhgdeelagmbpaaGreat
