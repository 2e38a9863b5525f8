/-
  The law StopsTurned, on plain data.
-/
import Derived.Test.YtdhgdeelagmbpaaGreatWar
import Derived.Test.YtdhgdeelagmbpaaGreatWah
set_option linter.unusedSimpArgs false
set_option linter.unusedVariables false
namespace Go.Proofs.YtdhgdeelagmbpaaGreat
open Go Go.Gm
theorem qcy {x z : T.Stop} {kids rest : List T.Stop} {k : Nat} (h : (x :: (kids ++ rest))[k]? = some z) : (k = 0 ∧ z = x) ∨ (∃ i,k = i + 1 ∧ kids[i]? = some z) ∨ (∃ i,k = i + 1 + kids.length ∧ rest[i]? = some z) := by
 cases k with
 | zero => simp at h; exact .inl ⟨rfl,h.symm⟩
 | succ k =>
  simp only [List.getElem?_cons_succ] at h
  by_cases hk : k < kids.length
  ·rw [List.getElem?_append_left hk] at h
   exact .inr (.inl ⟨k,rfl,h⟩)
  ·rw [List.getElem?_append_right (by omega)] at h
   exact .inr (.inr ⟨k - kids.length,by omega,h⟩)
theorem qgo {x z : T.Stop} {kids rest : List T.Stop} {i : Nat} (h : kids[i]? = some z) : (x :: (kids ++ rest))[i + 1]? = some z := by
 have hi := (List.getElem?_eq_some_iff.1 h).1
 simp only [List.getElem?_cons_succ]
 rw [List.getElem?_append_left hi]
 exact h
theorem qhr {x z : T.Stop} {kids rest : List T.Stop} {i : Nat} (h : rest[i]? = some z) : (x :: (kids ++ rest))[i + 1 + kids.length]? = some z := by
 rw [show i + 1 + kids.length = (kids.length + i) + 1 by omega]
 simp only [List.getElem?_cons_succ]
 rw [List.getElem?_append_right (by omega)]
 simpa using h
structure zfs (up lo hi : Int) (b : Nat) (l : List T.Stop) (k : Nat) (x : T.Stop) : Prop where
 lo : lo ≤ x.span.frm
 le : x.span.frm ≤ x.span.to
 hi : x.span.to ≤ hi
 ins : x.up = up ∨ ∃ (q : Nat) (y : T.Stop),x.up = ((b + q : Nat) : Int) ∧ q < k ∧ l[q]? = some y ∧ y.span.frm ≤ x.span.frm ∧ x.span.to ≤ y.span.to
 sib : ∀ (j : Nat) (y : T.Stop),j < k → l[j]? = some y → y.up = x.up → y.span.to ≤ x.span.frm
theorem Lay.in_ {H : Int → Int → Prop} {up lo hi : Int} {b : Nat} {l : List T.Stop} (h : Lay H up lo hi b l) : up < b → ∀ (k : Nat) (x : T.Stop),l[k]? = some x → zfs up lo hi b l k x := by
 induction h with
 | nil => intro _ k x hx; simp at hx
 | cons up lo hi b x kids rest hu h1 h2 hH hk hr ihk ihr =>
  intro hub k z hz
  have ihk := ihk (by omega)
  have ihr := ihr (by omega)
  have hkl : ∀ (i : Nat) (y : T.Stop),kids[i]? = some y → i < kids.length := fun i y h => (List.getElem?_eq_some_iff.1 h).1
  have hrle := hr.le
  have kup : ∀ (i : Nat) (y : T.Stop),kids[i]? = some y → (b : Int) ≤ y.up ∧ y.up < b + 1 + kids.length := by
   intro i y h
   have := hkl i y h
   rcases (ihk i y h).ins with e | ⟨q,w,e,q1,_⟩ <;> omega
  have rup : ∀ (i : Nat) (y : T.Stop),rest[i]? = some y → y.up = up ∨ (b : Int) + 1 + kids.length ≤ y.up := by
   intro i y h
   rcases (ihr i y h).ins with e | ⟨q,w,e,q1,_⟩
   ·exact .inl e
   ·right; omega
  rcases qcy hz with ⟨rfl,rfl⟩ | ⟨i,rfl,hi⟩ | ⟨i,rfl,hi⟩
  ·exact ⟨h1,h2,hrle,.inl hu,fun j y hj => by omega⟩
  ·have q := ihk i z hi
   refine ⟨by have := q.lo; omega,q.le,by have := q.hi; omega, ?_, ?_⟩
   ·rcases q.ins with e | ⟨p,y,e,p1,p2,p3⟩
    ·exact .inr ⟨0,x,by simpa using e,by omega,by simp,q.lo,q.hi⟩
    ·exact .inr ⟨p + 1,y,by rw [e]; omega,by omega,qgo p2,p3⟩
   ·intro j y hj hy hup
    rcases qcy hy with ⟨rfl,rfl⟩ | ⟨i',rfl,hi'⟩ | ⟨i',rfl,hi'⟩
    ·have := kup i z hi; omega
    ·exact q.sib i' y (by omega) hi' hup
    ·have := hkl i z hi; omega
  ·have q := ihr i z hi
   refine ⟨by have := q.lo; omega,q.le,q.hi, ?_, ?_⟩
   ·rcases q.ins with e | ⟨p,y,e,p1,p2,p3⟩
    ·exact .inl e
    ·exact .inr ⟨p + 1 + kids.length,y,by rw [e]; omega,by omega,qhr p2,p3⟩
   ·intro j y hj hy hup
    rcases qcy hy with ⟨rfl,rfl⟩ | ⟨i',rfl,hi'⟩ | ⟨i',rfl,hi'⟩
    ·exact q.lo
    ·have a1 := kup i' y hi'
     have a2 := rup i z hi
     omega
    ·exact q.sib i' y (by omega) hi' hup
section
variable {H : Int → Int → Prop} {L : List T.Stop}
theorem Lay.last {up lo hi : Int} {b : Nat} {l : List T.Stop} (h : Lay H up lo hi b l) : ∀ p : Nat,up = p → p < b → (∀ (k : Nat) (x : T.Stop),l[k]? = some x → L[b + k]? = some x) → l ≠ [] → p ∈ yu L (b + l.length - 1) := by
 induction h with
 | nil => intro _ _ _ _ h; exact absurd rfl h
 | cons up lo hi b x kids rest hu h1 h2 hH hk hr ihk ihr =>
  intro p hp hpb hL _
  have hLb : L[b]? = some x := by simpa using hL 0 x (by simp)
  have hb : p ∈ yu L b := by rw [qbl hLb (hu.trans hp) hpb]; exact List.mem_cons_self
  have hLk : ∀ (i : Nat) (y : T.Stop),kids[i]? = some y → L[b + 1 + i]? = some y := fun i y h => by
   have := hL (i + 1) y (qgo h)
   rwa [show b + (i + 1) = b + 1 + i by omega] at this
  have hLr : ∀ (i : Nat) (y : T.Stop),rest[i]? = some y → L[b + 1 + kids.length + i]? = some y := fun i y h => by
   have := hL _ y (qhr h)
   rwa [show b + (i + 1 + kids.length) = b + 1 + kids.length + i by omega] at this
  have e : b + (x :: (kids ++ rest)).length - 1 = b + kids.length + rest.length := by simp; omega
  rw [e]
  by_cases hre : rest = []
  ·subst hre
   by_cases hke : kids = []
   ·subst hke; simpa using hb
   ·have := ihk b rfl (by omega) hLk hke
    rw [show b + 1 + kids.length - 1 = b + kids.length by omega] at this
    exact qoj hb _ (by simpa using this)
  ·have := ihr p hp (by omega) hLr hre
   have hl : 0 < rest.length := List.length_pos_iff.2 hre
   rwa [show b + 1 + kids.length + rest.length - 1 = b + kids.length + rest.length by omega] at this
theorem Lay.placed {up lo hi : Int} {b : Nat} {l : List T.Stop} (h : Lay H up lo hi b l) : (up = -1 ∨ ∃ p : Nat,up = p ∧ p < b ∧ (p = b - 1 ∨ p ∈ yu L (b - 1))) → (∀ (k : Nat) (x : T.Stop),l[k]? = some x → L[b + k]? = some x) →
  ∀ (k : Nat) (x : T.Stop),l[k]? = some x → q6e L (b + k) x := by
 induction h with
 | nil => intro _ _ k x hx; simp at hx
 | cons up lo hi b x kids rest hu h1 h2 hH hk hr ihk ihr =>
  intro hup hL k z hz
  have hLb : L[b]? = some x := by simpa using hL 0 x (by simp)
  have hLk : ∀ (i : Nat) (y : T.Stop),kids[i]? = some y → L[b + 1 + i]? = some y := fun i y h => by
   have := hL (i + 1) y (qgo h)
   rwa [show b + (i + 1) = b + 1 + i by omega] at this
  have hLr : ∀ (i : Nat) (y : T.Stop),rest[i]? = some y → L[b + 1 + kids.length + i]? = some y := fun i y h => by
   have := hL _ y (qhr h)
   rwa [show b + (i + 1 + kids.length) = b + 1 + kids.length + i by omega] at this
  rcases qcy hz with ⟨rfl,rfl⟩ | ⟨i,rfl,hi⟩ | ⟨i,rfl,hi⟩
  ·rcases hup with h | ⟨p,p1,p2,p3⟩
   ·exact .inl (hu.trans h)
   ·exact .inr ⟨p,hu.trans p1,by omega,p3⟩
  ·rw [show b + (i + 1) = b + 1 + i by omega]
   exact ihk (.inr ⟨b,rfl,by omega,.inl rfl⟩) hLk i z hi
  ·rw [show b + (i + 1 + kids.length) = b + 1 + kids.length + i by omega]
   refine ihr ?_ hLr i z hi
   rcases hup with h | ⟨p,p1,p2,p3⟩
   ·exact .inl h
   ·refine .inr ⟨p,p1,by omega,.inr ?_⟩
    have hb : p ∈ yu L b := by rw [qbl hLb (hu.trans p1) p2]; exact List.mem_cons_self
    by_cases hke : kids = []
    ·subst hke; simpa using hb
    ·have := hk.last b rfl (by omega) hLk hke
     exact qoj hb _ this
end
def uz (a : Int) (x : T.Stop) : T.Stop := { x with span := ⟨x.span.frm + a,x.span.to + a⟩ }
theorem Lay.shift {H : Int → Int → Prop} {up lo hi : Int} {b : Nat} {l : List T.Stop} (h : Lay H up lo hi b l) (a : Int) : Lay H up (lo + a) (hi + a) b (l.map (uz a)) := by
 induction h with
 | nil up lo hi b h => exact .nil _ _ _ _ (by omega)
 | cons up lo hi b x kids rest hu h1 h2 hH hk hr ihk ihr =>
  rw [List.map_cons,List.map_append]
  refine .cons up (lo + a) (hi + a) b (uz a x) _ _ hu ?_ ?_ (fun y hy => ?_) ihk ?_
  ·simp only [uz]; omega
  ·simp only [uz]; omega
  ·obtain ⟨z,hz,rfl⟩ := List.mem_map.1 hy
   exact hH z hz
  ·simp only [List.length_map]; exact ihr
theorem Lay.idx {H : Int → Int → Prop} {i : T.z8} (h : Lay H (-1) i.span.frm i.span.to 0 i.stops.l) : qci i := by
 intro k x hx
 have hin := h.in_ (by omega) k x hx
 have hpl := h.placed (L := i.stops.l) (.inl rfl) (fun k x h => by simpa using h) k x hx
 rw [Nat.zero_add] at hpl
 refine ⟨hpl,hin.le,fun _ => ⟨hin.lo,hin.hi⟩,fun v y hv hy => ?_,hin.sib⟩
 rcases hin.ins with e | ⟨q,z,e,_,q2,q3⟩
 ·omega
 ·have : v = q := by omega
  subst this
  rw [q2] at hy
  cases hy
  exact q3
end Go.Proofs.YtdhgdeelagmbpaaGreat
set_option linter.unusedSimpArgs false
set_option linter.unusedVariables false
namespace Go.Proofs.YtdhgdeelagmbpaaGreat
namespace StM
open Go Go.Gm
theorem qwr (i : T.z8) (k : Nat) (x : T.Stop) (hk : qc i.stops.l k = some x) (u : Nat) : u < i.stops.l.length →
  ∃ t : Bool,q1s (i.stops,(u : Int),x.up) = some (if t then .inl true else .inr ()) ∧
   w9 ((k : Int),(u : Int),i) = some (if x.up == (u : Int) || t then .inl true else .inr ()) := by
 induction u using Nat.strongRecOn with
 | _ u ih =>
 intro hul
 have hx := zx hul
 generalize i.stops.l[u] = y at hx
 by_cases hv : 0 ≤ y.up ∧ y.up < u
 ·obtain ⟨v,hv'⟩ : ∃ v : Nat,y.up = v := ⟨y.up.toNat,by omega⟩
  obtain ⟨t,h1,h2⟩ := ih v (by omega) (by omega)
  refine ⟨(y.up == x.up) || t, ?_, ?_⟩
  ·rw [q1s.eq_1]
   by_cases e : y.up = x.up
   ·have e2 : (y.up == x.up) = true := by simpa using e
    simp only [hx,Option.bind_eq_bind,Option.bind_some,e2]
    simp [hul,hv]
   ·have e2 : (y.up == x.up) = false := by simpa using e
    simp only [hx,Option.bind_eq_bind,Option.bind_some,e2]
    have hvu : v < u := by omega
    simp [hul,hv',h1,hvu]
  ·rw [w9.eq_1]
   by_cases e : x.up = u
   ·simp [hk,e]
   ·have e2 : (x.up == (u : Int)) = false := by simpa using e
    have hs : q0r i u = some (v : Int) := by
     unfold q0r
     rw [hx]
     simp only [Option.bind_eq_bind,Option.bind_some]
     rw [if_pos (by simp [hv']; omega),hv']
    simp only [hk,hs,Option.bind_eq_bind,Option.bind_some,e2,h2]
    have : (x.up == (v : Int)) = ((v : Int) == x.up) := BEq.comm
    simp [this,hv']
 ·refine ⟨false, ?_, ?_⟩
  ·rw [q1s.eq_1]
   by_cases h : 0 ≤ y.up
   ·have h2 : ¬ y.up < u := fun h2 => hv ⟨h,h2⟩
    simp [hx,hul,h,h2]
   ·simp [hx,hul,h]
  ·rw [w9.eq_1]
   by_cases e : x.up = u
   ·simp [hk,e]
   ·have e2 : (x.up == (u : Int)) = false := by simpa using e
    have hs : q0r i u = some (-1) := by
     unfold q0r
     rw [hx]
     simp only [Option.bind_eq_bind,Option.bind_some]
     rw [if_neg (by simp; omega)]
    have hn : w9 ((k : Int),-1,i) = some (.inr ()) := by
     rw [w9.eq_1]
     rfl
    simp only [hk,hs,Option.bind_eq_bind,Option.bind_some,e2,hn]
    simp
theorem z6l (l : Sl T.Stop) (u : Nat) (b : Int) : q1s (l,(u : Int),b) = some (.inl true) → 0 ≤ b ∧ b < u := by
 induction u using Nat.strongRecOn with
 | _ u ih =>
 intro h
 rw [q1s.eq_1] at h
 by_cases hul : u < l.l.length
 ·have hx := zx hul
  generalize l.l[u] = y at hx
  simp only [hx,Option.bind_eq_bind,Option.bind_some] at h
  by_cases hv : 0 ≤ y.up ∧ y.up < u
  ·obtain ⟨v,hv'⟩ : ∃ v : Nat,y.up = v := ⟨y.up.toNat,by omega⟩
   by_cases e : y.up = b
   ·omega
   ·have hvu : v < u := by omega
    simp [hul,hv',hvu] at h
    have := ih v (by omega) (h (by omega))
    omega
  ·by_cases h0 : 0 ≤ y.up
   ·have h2 : ¬ y.up < u := fun h2 => hv ⟨h0,h2⟩
    simp [hul,h0,h2] at h
   ·simp [hul,h0] at h
 ·simp [hul] at h
theorem zmd (i : T.z8) (k : Nat) (x : T.Stop) (hk : qc i.stops.l k = some x) (hl : i.stops.l.length < 2 ^ 60) :
  ∃ t : Bool,q07 i k = some t ∧ (t = true → -1 ≤ x.up ∧ x.up < k) ∧
   (x.up = -1 → t = true) ∧ (x.up ≠ -1 → 0 ≤ x.up → x.up < k → (x.up = (k : Int) - 1 → t = true) ∧ (x.up ≠ (k : Int) - 1 → qam i.stops ((k : Int) - 1) x.up = some t)) := by
 have hkl : k < i.stops.l.length := by
  have := qg5 hk
  simpa using this
 have hw : IntKind.i64.wrap ((k : Int) - 1) = (k : Int) - 1 := q9 (by omega) (by omega)
 cases k with
 | zero =>
  refine ⟨x.up == -1, ?_, ?_, ?_, ?_⟩
  ·unfold q07
   rw [hw,w9.eq_1]
   simp only [Int.natCast_zero] at hk ⊢
   simp [hk]
  ·intro h; simp at h; omega
  ·intro h; simp [h]
  ·intro _ h1 h2; omega
 | succ k =>
  obtain ⟨t,h1,h2⟩ := qwr i (k + 1) x hk k (by omega)
  have e1 : ((k + 1 : Nat) : Int) - 1 = (k : Int) := by omega
  have e2 : IntKind.i64.wrap (((k + 1 : Nat) : Int) - 1) = (k : Int) := by rw [hw,e1]
  have hu : t = true → 0 ≤ x.up ∧ x.up < k := by
   intro ht
   subst ht
   exact z6l i.stops k x.up (by simpa using h1)
  refine ⟨(x.up == (k : Int)) || t || (x.up == -1), ?_, ?_, ?_, ?_⟩
  ·unfold q07
   rw [e2,h2]
   by_cases e : (x.up == (k : Int) || t) = true
   ·simp [e]
   ·simp only [Bool.not_eq_true] at e
    have hk' : qc i.stops.l ((k : Int) + 1) = some x := by simpa using hk
    simp [e,hk']
  ·intro h
   simp only [Bool.or_eq_true,beq_iff_eq] at h
   rcases h with (h | h) | h
   ·omega
   ·have := hu h; omega
   ·omega
  ·intro h; simp [h]
  ·intro h0 h3 h4
   rw [e1]
   refine ⟨fun h => by simp [h],fun h => ?_⟩
   unfold qam
   rw [h1]
   have : (x.up == (k : Int)) = false := by simpa using h
   have h5 : (x.up == (-1 : Int)) = false := by simpa using h0
   cases t <;> simp [this,h5]
def beside (x : T.Stop) : List T.Stop → Bool
 | [] => false
 | y :: r => (y.up == x.up && decide (x.span.frm < y.span.to)) || beside x r
theorem qo2 (x : T.Stop) : ∀ l : List T.Stop,beside x l = true ↔ ∃ (q : Nat) (y : T.Stop),l[q]? = some y ∧ y.up = x.up ∧ x.span.frm < y.span.to
 | [] => by simp [beside]
 | y :: r => by
  simp only [beside,Bool.or_eq_true,Bool.and_eq_true,beq_iff_eq,decide_eq_true_eq,qo2 x r]
  constructor
  ·rintro (h | ⟨q,z,h⟩)
   ·exact ⟨0,y,rfl,h⟩
   ·exact ⟨q + 1,z,by simpa using h.1,h.2⟩
  ·rintro ⟨q,z,h1,h2⟩
   cases q with
   | zero => simp at h1; subst h1; exact .inl h2
   | succ q => exact .inr ⟨q,z,by simpa using h1,h2⟩
theorem qtw (i : T.z8) (x : T.Stop) (b : T.Span) (k : Nat) (hk : k ≤ i.stops.l.length) (hl : i.stops.l.length < 2 ^ 60) : ∀ (n j : Nat),j + n = k →
  mf ((k : Int),(j : Int),i,x,b) = some (if beside x ((i.stops.l.take k).drop j) = true then .inl false else .inr ()) := by
 intro n
 induction n with
 | zero =>
  intro j hj
  obtain rfl : j = k := by omega
  rw [mf.eq_1]
  have : (i.stops.l.take j).drop j = [] := by simp
  simp [this,beside]
 | succ n ih =>
  intro j hj
  have hjl : j < i.stops.l.length := by omega
  have hjk : j < k := by omega
  have hd : (i.stops.l.take k).drop j = i.stops.l[j] :: (i.stops.l.take k).drop (j + 1) := by
   rw [List.drop_eq_getElem_cons (by simp; omega)]
   simp
  have hw : IntKind.i64.wrap ((j : Int) + 1) = ((j + 1 : Nat) : Int) := q1o (by omega)
  have hx := zx hjl
  rw [hd]
  generalize i.stops.l[j] = y at hx
  rw [mf.eq_1]
  simp only [hx,Option.bind_eq_bind,Option.bind_some,hw,ih (j + 1) (by omega),beside]
  by_cases h1 : y.up = x.up
  ·by_cases h2 : x.span.frm < y.span.to
   ·simp [h1,h2,hjk]
   ·simp [h1,h2,hjk]
  ·simp [h1,hjk]
def q93 (i : T.z8) (x : T.Stop) : Bool :=
 if 0 ≤ x.up then match i.stops.l[x.up.toNat]? with
  | some y => decide (x.span.frm ≥ y.span.frm) && decide (x.span.to ≤ y.span.to)
  | none => false
 else decide (x.span.frm ≥ i.span.frm) && decide (x.span.to ≤ i.span.to)
def qae (i : T.z8) (k : Nat) (x : T.Stop) (t : Bool) : Bool :=
 t && decide (x.span.frm ≤ x.span.to) && !(beside x (i.stops.l.take k)) && q93 i x
theorem qdq (a b : T.Span) : q25 a b = some (decide (a.frm ≥ b.frm) && decide (a.to ≤ b.to)) := by
 unfold q25
 by_cases h : a.frm ≥ b.frm <;> simp [h]
theorem zdr (a b : T.Span) : q0o a b = some (decide (a.frm ≥ b.frm) && decide (a.to ≤ b.to)) := by
 unfold q0o
 by_cases h : a.frm ≥ b.frm <;> simp [h]
theorem zp0 (i : T.z8) (k : Nat) (hk : k < i.stops.l.length) (hl : i.stops.l.length < 2 ^ 60) :
  ∃ t : Bool,q07 i k = some t ∧ (t = true → -1 ≤ i.stops.l[k].up ∧ i.stops.l[k].up < k) ∧
  uj ((k : Int),i) = if qae i k i.stops.l[k] t = true then uj (((k + 1 : Nat) : Int),i) else some (.inl false) := by
 have hx := zx hk
 generalize i.stops.l[k] = x at hx
 obtain ⟨t,h1,h2,h3,h4⟩ := zmd i k x hx hl
 refine ⟨t,h1,h2, ?_⟩
 have hw : IntKind.i64.wrap ((k : Int) + 1) = ((k + 1 : Nat) : Int) := q1o (by omega)
 have hw2 : IntKind.i64.wrap ((k : Int) - 1) = (k : Int) - 1 := q9 (by omega) (by omega)
 have hb := fun b => qtw i x b k (by omega) hl k 0 (by omega)
 simp only [Int.natCast_zero,List.drop_zero] at hb
 rw [uj.eq_1]
 simp only [hx,Option.bind_eq_bind,Option.bind_some,hw,hw2,hb,qdq]
 have hlt : decide ((k : Int) < (i.stops.l.length : Int)) = true := by simpa using hk
 rw [if_pos hlt]
 have tail : ∀ (b : T.Span) (q : Bool),(b.frm ≤ x.span.frm ∧ x.span.to ≤ b.to ↔ q = true) →
   (if decide (x.span.frm > x.span.to) = true then some (.inl false) else if (!(decide (x.span.frm ≥ b.frm) && decide (x.span.to ≤ b.to))) = true then some (.inl false)
    else (some (if beside x (i.stops.l.take k) = true then (.inl false : Bool ⊕ Unit) else .inr ())).bind fun v => match v with
     | .inl y => some (.inl y)
     | .inr _ => uj (((k + 1 : Nat) : Int),i)) =
   if (decide (x.span.frm ≤ x.span.to) && !(beside x (i.stops.l.take k)) && q) = true then uj (((k + 1 : Nat) : Int),i) else some (.inl false) := by
  intro b q hq
  by_cases h1 : x.span.frm > x.span.to
  ·have : ¬ x.span.frm ≤ x.span.to := by omega
   simp [h1,this]
  ·have h1' : x.span.frm ≤ x.span.to := by omega
   cases q with
   | true =>
    obtain ⟨a1,a2⟩ := hq.2 rfl
    cases beside x (i.stops.l.take k) <;> simp [h1',a1,a2] <;> omega
   | false =>
    have : (decide (x.span.frm ≥ b.frm) && decide (x.span.to ≤ b.to)) = false := by
     rw [Bool.eq_false_iff]
     intro h
     simp only [Bool.and_eq_true,decide_eq_true_eq] at h
     cases hq.1 h
    simp [this]
 by_cases hu : x.up = -1
 ·have ht := h3 hu
  subst ht
  have e1 : (x.up != -1) = false := by simp [hu]
  have e2 : decide (x.up ≥ 0) = false := by simp [hu]
  have e3 : ¬ 0 ≤ x.up := by omega
  simp only [e1,e2,qae,q93,e3,if_false,Bool.false_eq_true,Bool.true_and]
  exact tail i.span (decide (x.span.frm ≥ i.span.frm) && decide (x.span.to ≤ i.span.to)) (by simp)
 ·have e1 : (x.up != -1) = true := by simp [hu]
  by_cases hr : 0 ≤ x.up ∧ x.up < k
  ·obtain ⟨h5,h6⟩ := h4 hu hr.1 hr.2
   have e0 : (decide (x.up < 0) || decide (x.up ≥ (k : Int))) = false := by simp; omega
   have e2 : decide (x.up ≥ 0) = true := by simp; omega
   obtain ⟨v,hv⟩ : ∃ v : Nat,x.up = v := ⟨x.up.toNat,by omega⟩
   have hvl : v < i.stops.l.length := by omega
   have hy := zx hvl
   have hy2 : i.stops.l[x.up.toNat]? = some i.stops.l[v] := by rw [hv]; simp [hvl]
   generalize i.stops.l[v] = y at hy hy2
   have hy' : qc i.stops.l x.up = some y := by rw [hv]; exact hy
   have fin := tail y.span (decide (x.span.frm ≥ y.span.frm) && decide (x.span.to ≤ y.span.to)) (by simp)
   simp only [e1,e0,e2,qae,q93,hr.1,hy',hy2,if_true,Bool.false_eq_true,if_false,Option.bind_some]
   by_cases h7 : x.up = (k : Int) - 1
   ·have := h5 h7
    subst this
    have e3 : (x.up != (k : Int) - 1) = false := by simp [h7]
    simp only [e3,Bool.false_eq_true,if_false,Bool.true_and]
    exact fin
   ·have e3 : (x.up != (k : Int) - 1) = true := by simp [h7]
    simp only [e3,if_true,h6 h7,Option.bind_some]
    cases t with
    | true =>
     simp only [Bool.not_true,Bool.false_eq_true,if_false,Bool.true_and]
     exact fin
    | false => simp
  ·have e0 : (decide (x.up < 0) || decide (x.up ≥ (k : Int))) = true := by
    simp only [Bool.or_eq_true,decide_eq_true_eq]
    omega
   have : t = false := by
    cases t with
    | true => have := h2 rfl; omega
    | false => rfl
   subst this
   simp [e1,e0,qae]
theorem zqc (i : T.z8) (k : Nat) (hk : k < i.stops.l.length) (hl : i.stops.l.length < 2 ^ 60) (t : Bool) (ht : q07 i k = some t) (hup : t = true → -1 ≤ i.stops.l[k].up ∧ i.stops.l[k].up < k) (ends : zo) :
  yx (i.stops,(i.stops.l.length : Int),(k : Int),i,ends) =
   if (t && decide (i.stops.l[k].span.frm ≤ i.stops.l[k].span.to) && !(xu ends i.stops.l[k].up && decide (i.stops.l[k].span.frm < ja ends i.stops.l[k].up)) &&
    q93 i i.stops.l[k]) = true
   then yx (i.stops,(i.stops.l.length : Int),((k + 1 : Nat) : Int),i,yj ends i.stops.l[k].up i.stops.l[k].span.to) else some (.inl (false,ends)) := by
 have hx := zx hk
 generalize i.stops.l[k] = x at hx hup
 have hw : IntKind.i64.wrap ((k : Int) + 1) = ((k + 1 : Nat) : Int) := q1o (by omega)
 have hlt : decide ((k : Int) < (i.stops.l.length : Int)) = true := by simpa using hk
 rw [yx.eq_1,if_pos hlt]
 simp only [hx,ht,Option.bind_eq_bind,Option.bind_some,hw,zdr]
 cases t with
 | false => simp
 | true =>
  have := hup rfl
  by_cases h1 : x.span.frm > x.span.to
  ·have h2 : ¬ x.span.frm ≤ x.span.to := by omega
   simp [h1,h2]
  ·have h2 : x.span.frm ≤ x.span.to := by omega
   by_cases hu : 0 ≤ x.up
   ·obtain ⟨v,hv⟩ : ∃ v : Nat,x.up = v := ⟨x.up.toNat,by omega⟩
    have hvl : v < i.stops.l.length := by omega
    have hy := zx hvl
    have hy2 : i.stops.l[x.up.toNat]? = some i.stops.l[v] := by rw [hv]; simp [hvl]
    generalize i.stops.l[v] = y at hy hy2
    have hy' : qc i.stops.l x.up = some y := by rw [hv]; exact hy
    simp only [hy',hy2,Option.bind_some,q93]
    by_cases h3 : x.span.frm ≥ y.span.frm <;> by_cases h4 : x.span.to ≤ y.span.to <;> cases xu ends x.up <;> by_cases h5 : x.span.frm < ja ends x.up <;> simp [h1,h2,hu,h3,h4,h5] <;> omega
   ·simp only [q93]
    by_cases h3 : x.span.frm ≥ i.span.frm <;> by_cases h4 : x.span.to ≤ i.span.to <;> cases xu ends x.up <;> by_cases h5 : x.span.frm < ja ends x.up <;> simp [h1,h2,hu,h3,h4,h5] <;> omega
structure Seen (l : List T.Stop) (k : Nat) (ends : zo) : Prop where
 fwd : ∀ (j : Nat) x,j < k → l[j]? = some x → x.span.frm ≤ x.span.to ∧ xu ends x.up = true ∧ x.span.to ≤ ja ends x.up
 bwd : ∀ u,xu ends u = true → ∃ (j : Nat) (x : T.Stop),j < k ∧ l[j]? = some x ∧ x.up = u ∧ ja ends u = x.span.to
theorem z3g {l : List T.Stop} {k : Nat} {ends : zo} (h : Seen l k ends) (x : T.Stop) (hk : k ≤ l.length) : beside x (l.take k) = (xu ends x.up && decide (x.span.frm < ja ends x.up)) := by
 rw [Bool.eq_iff_iff,qo2]
 simp only [Bool.and_eq_true,decide_eq_true_eq]
 constructor
 ·rintro ⟨q,y,h1,h2,h3⟩
  have hq : q < k := by
   have := (List.getElem?_eq_some_iff.1 h1).1
   simp at this
   omega
  rw [List.getElem?_take_of_lt hq] at h1
  obtain ⟨_,b,c⟩ := h.fwd q y hq h1
  rw [h2] at b c
  exact ⟨b,by omega⟩
 ·rintro ⟨h1,h2⟩
  obtain ⟨j,y,hj,hy,hu,he⟩ := h.bwd _ h1
  exact ⟨j,y,by rw [List.getElem?_take_of_lt hj]; exact hy,hu,by omega⟩
theorem zfz {l : List T.Stop} {k : Nat} {ends : zo} (h : Seen l k ends) (x : T.Stop) (hx : l[k]? = some x) (h1 : x.span.frm ≤ x.span.to) (h2 : (xu ends x.up && decide (x.span.frm < ja ends x.up)) = false) : Seen l (k + 1) (yj ends x.up x.span.to) := by
 constructor
 ·intro j y hj hy
  rw [qdh,qd2]
  by_cases hjk : j = k
  ·subst hjk
   rw [hx] at hy
   cases hy
   simp [h1]
  ·obtain ⟨a,b,c⟩ := h.fwd j y (by omega) hy
   refine ⟨a,by simp [b], ?_⟩
   by_cases e : y.up = x.up
   ·rw [if_pos e]
    rw [e] at b c
    simp only [b,Bool.true_and,decide_eq_false_iff_not] at h2
    omega
   ·rw [if_neg e]
    exact c
 ·intro u hu
  rw [qd2]
  rw [qdh] at hu
  by_cases e : u = x.up
  ·exact ⟨k,x,by omega,hx,e.symm,by rw [if_pos e]⟩
  ·rw [if_neg e] at hu ⊢
   obtain ⟨j,y,hj,hy⟩ := h.bwd u hu
   exact ⟨j,y,by omega,hy⟩
theorem z3l (i : T.z8) (hl : i.stops.l.length < 2 ^ 60) : ∀ (n k : Nat) (ends : zo),k + n = i.stops.l.length → Seen i.stops.l k ends →
  ∃ (t : Bool) (e : zo),yx (i.stops,(i.stops.l.length : Int),(k : Int),i,ends) = some (if t = true then .inr e else .inl (false,e)) ∧
   uj ((k : Int),i) = some (if t = true then .inr () else .inl false) := by
 intro n
 induction n with
 | zero =>
  intro k ends hk _
  obtain rfl : k = i.stops.l.length := by omega
  refine ⟨true,ends, ?_, ?_⟩
  ·rw [yx.eq_1]; simp
  ·rw [uj.eq_1]; simp
 | succ n ih =>
  intro k ends hk hs
  have hkl : k < i.stops.l.length := by omega
  obtain ⟨t,h1,h2,h3⟩ := zp0 i k hkl hl
  have h4 := zqc i k hkl hl t h1 h2 ends
  rw [h3,h4,qae,z3g hs _ (by omega)]
  have hx : i.stops.l[k]? = some i.stops.l[k] := by simp [hkl]
  generalize i.stops.l[k] = x at hx ⊢
  split
  ·rename_i hc
   simp only [Bool.and_eq_true,decide_eq_true_eq,Bool.not_eq_true'] at hc
   exact ih (k + 1) _ (by omega) (zfz hs x hx hc.1.1.2 hc.1.2)
  ·exact ⟨false,ends,rfl,rfl⟩
theorem zk9 (i : T.z8) (n : Int) (hl : i.stops.l.length < 2 ^ 60) : ∃ t : Bool,mi i n = some t ∧ q4v i n = some t := by
 have hm : qdp i.span n = q26 i.span n := rfl
 obtain ⟨b,hb⟩ : ∃ b,q26 i.span n = some b := by
  unfold q26
  split <;> exact ⟨_,rfl⟩
 obtain ⟨t,e,h1,h2⟩ := z3l i hl i.stops.l.length 0 ⟨[],0⟩ (by omega) ⟨fun j x hj => by omega,fun u hu => by simp [qi9] at hu⟩
 simp only [Int.natCast_zero] at h1 h2
 unfold mi q4v
 rw [hm,hb]
 simp only [Option.bind_eq_bind,Option.bind_some]
 cases b with
 | false => exact ⟨false,rfl,rfl⟩
 | true =>
  simp only [Bool.not_true,Bool.false_eq_true,if_false,h1,h2,Option.bind_some]
  cases t <;> exact ⟨_,rfl,rfl⟩
end StM
end Go.Proofs.YtdhgdeelagmbpaaGreat
set_option linter.unusedSimpArgs false
set_option linter.unusedVariables false
namespace Go.Proofs.YtdhgdeelagmbpaaGreat
open Go Go.Gm
theorem zq7 : ∀ (p : Int × Int × T.z8) r,w9 p = some r → q3m (p.1,p.2.1,p.2.2.stops.l,p.2.2.span.frm,p.2.2.span.to) = some r := by
 refine w9.partial_correctness (fun p r => q3m (p.1,p.2.1,p.2.2.stops.l,p.2.2.span.frm,p.2.2.span.to) = some r) ?_
 rintro f ih ⟨k,u,i⟩ r h
 rw [q3m.eq_1]
 dsimp only at h ⊢
 by_cases h1 : decide (u ≥ 0) = true
 ·rw [if_pos h1] at h ⊢
  cases h2 : qc i.stops.l k with
  | none => rw [h2] at h; cases h
  | some x =>
   rw [h2] at h
   simp only [Option.bind_eq_bind,Option.bind_some] at h ⊢
   by_cases h3 : (x.up == u) = true
   ·rw [if_pos h3] at h ⊢; exact h
   ·rw [if_neg h3] at h ⊢
    cases h4 : q0r i u with
    | none => rw [h4] at h; cases h
    | some v =>
     rw [h4] at h
     rw [show qdn i.span.frm i.span.to u i.stops.l = some v from h4]
     exact ih _ _ h
 ·rw [if_neg h1] at h ⊢; exact h
theorem zrh (i : T.z8) (k : Int) (t : Bool) (h : q07 i k = some t) : qaa i.span.frm i.span.to k i.stops.l = some t := by
 unfold q07 at h
 unfold qaa
 cases h1 : w9 (k,IntKind.i64.wrap (k - 1),i) with
 | none => rw [h1] at h; cases h
 | some v =>
  rw [h1] at h
  rw [show q3m (k,IntKind.i64.wrap (k - 1),i.stops.l,i.span.frm,i.span.to) = some v from zq7 _ _ h1]
  exact h
theorem zoz : ∀ (p : (Sl T.Stop) × Int × Int × T.z8 × zo) r,yx p = some r → p.1 = p.2.2.2.1.stops → q21 (p.2.1,p.2.2.1,p.2.2.2.1.stops.l,p.2.2.2.1.span.frm,p.2.2.2.1.span.to,p.2.2.2.2) = some r := by
 refine yx.partial_correctness (fun p r => p.1 = p.2.2.2.1.stops → q21 (p.2.1,p.2.2.1,p.2.2.2.1.stops.l,p.2.2.2.1.span.frm,p.2.2.2.1.span.to,p.2.2.2.2) = some r) ?_
 rintro f ih ⟨s,n,k,i,ends⟩ r h e
 rw [q21.eq_1]
 dsimp only at h e ⊢
 subst e
 by_cases h1 : decide (k < n) = true
 ·rw [if_pos h1] at h ⊢
  cases h2 : qc i.stops.l k with
  | none => rw [h2] at h; cases h
  | some x =>
   rw [h2] at h
   simp only [Option.bind_eq_bind,Option.bind_some] at h ⊢
   cases h3 : q07 i k with
   | none => rw [h3] at h; cases h
   | some t =>
    rw [h3] at h
    rw [zrh i k t h3]
    simp only [Option.bind_some] at h ⊢
    by_cases h4 : (!t || decide (x.span.frm > x.span.to)) = true
    ·rw [if_pos h4] at h ⊢; exact h
    ·rw [if_neg h4] at h ⊢
     by_cases h5 : decide (x.up ≥ 0) = true
     ·rw [if_pos h5] at h ⊢
      cases h6 : qc i.stops.l x.up with
      | none => rw [h6] at h; cases h
      | some y =>
       rw [h6] at h
       simp only [Option.bind_some] at h ⊢
       cases h7 : q0o x.span y.span with
       | none => rw [h7] at h; cases h
       | some w =>
        rw [h7] at h
        simp only [Option.bind_some] at h ⊢
        by_cases h8 : (!w || xu ends x.up && decide (x.span.frm < ja ends x.up)) = true
        ·rw [if_pos h8] at h ⊢; exact h
        ·rw [if_neg h8] at h ⊢; exact ih _ _ h rfl
     ·rw [if_neg h5] at h ⊢
      cases h7 : q0o x.span i.span with
      | none => rw [h7] at h; cases h
      | some w =>
       rw [h7] at h
       simp only [Option.bind_some] at h ⊢
       by_cases h8 : (!w || xu ends x.up && decide (x.span.frm < ja ends x.up)) = true
       ·rw [if_pos h8] at h ⊢; exact h
       ·rw [if_neg h8] at h ⊢; exact ih _ _ h rfl
 ·rw [if_neg h1] at h ⊢; exact h
theorem qlu (i : T.z8) (n : Int) (t : Bool) (h : mi i n = some t) : q83 i.span.frm i.span.to n i.stops.l = some t := by
 unfold mi at h
 unfold q83
 cases h0 : q26 i.span n with
 | none => rw [h0] at h; cases h
 | some v =>
  rw [h0] at h
  simp only [Option.bind_eq_bind,Option.bind_some] at h ⊢
  by_cases h1 : (!v) = true
  ·rw [if_pos h1] at h ⊢; exact h
  ·rw [if_neg h1] at h ⊢
   cases h2 : yx (i.stops,(i.stops.l.length : Int),0,i,⟨[],0⟩) with
   | none => rw [h2] at h; cases h
   | some w =>
    rw [h2] at h
    rw [show q21 ((i.stops.l.length : Int),0,i.stops.l,i.span.frm,i.span.to,⟨[],0⟩) = some w from zoz _ _ h2 rfl]
    exact h
theorem zcr {up lo hi : Int} {H : Int → Int → Prop} {b : Nat} {l : List T.Stop} (h : Lay H up lo hi b l) (hub : up < b) : ∀ x ∈ l,lo ≤ x.span.frm ∧ x.span.frm ≤ x.span.to ∧ x.span.to ≤ hi := by
 intro x hx
 obtain ⟨k,hk⟩ := List.mem_iff_getElem?.1 hx
 have := h.in_ hub k x hk
 exact ⟨this.lo,this.le,this.hi⟩
theorem zek (at_ : Int) (h0 : 0 ≤ at_) (h1 : at_ ≤ 1000) (p : Sl T.Stop) (hp : ∀ x ∈ p.l,0 ≤ x.span.frm ∧ x.span.frm ≤ x.span.to ∧ x.span.to ≤ 65536) (hm : p.l.length ≤ 257) (t : T.z8) (e1 e2 : Int) :
  ∀ (d k : Nat) (out : List T.Stop),k + d = p.l.length → out = (p.l.take k).map (uz at_) → q4u (at_,p,(k : Int),t,e1,e2,out) = some (p.l.map (uz at_)) := by
 intro d
 induction d with
 | zero =>
  intro k out hk ho
  rw [q4u.eq_1,if_neg (by simp; omega),ho,show k = p.l.length by omega,List.take_length]
 | succ d ih =>
  intro k out hk ho
  have hkl : k < p.l.length := by omega
  have hx := zx hkl
  have hx2 : p.l[k]? = some p.l[k] := by simp [hkl]
  generalize p.l[k] = x at hx hx2
  obtain ⟨a1,a2,a3⟩ := hp x (List.mem_of_getElem? hx2)
  have hol : out.length = k := by rw [ho]; simp; omega
  rw [q4u.eq_1,if_pos (by simp; omega),q1o (by omega)]
  simp only [hx,Option.bind_eq_bind,Option.bind_some]
  rw [if_pos (zt (by omega) (by omega)),q9 (by omega) (by omega),q9 (by omega) (by omega)]
  refine ih (k + 1) _ (by omega) ?_
  rw [List.take_add_one,hx2,List.map_append,ho]
  rfl
theorem z3s : q97 ⟨true,[]⟩ [] [] := ⟨by simp,by simp,by simp,by simp⟩
theorem z6u (s : Bytes) : ∃ (ok : Bool) (a : Bytes) (st : List T.Stop),(ok = true → qdb a st) ∧ ∀ at_ : Int,0 ≤ at_ → at_ ≤ 1000 → q98 s at_ = some (if ok then .inr (at_,at_ + a.length,true,st.map (uz at_)) else .inl (T.z8.mk ⟨0,0⟩ ⟨true,[]⟩,false)) := by
 obtain ⟨v,hv,hv1,_⟩ := znm s
 obtain ⟨r,hr,hr1⟩ := zr3 z3s v.1 hv1
 by_cases hc : v.2 = 0 ∧ r.2.2 = 0
 ·have hM := hr1 hc.2
  refine ⟨true,r.1,r.2.1.l,fun _ => hM,fun at_ h0 h1 => ?_⟩
  obtain ⟨H,hL,_⟩ := hM.lay
  have hsp : ∀ x ∈ r.2.1.l,0 ≤ x.span.frm ∧ x.span.frm ≤ x.span.to ∧ x.span.to ≤ 65536 := by
   intro x hx
   have := zcr hL (by omega) x hx
   have := hM.len
   omega
  have hlen := hM.len
  unfold q98
  simp only [hv,hr,hc.1,hc.2,Option.bind_eq_bind,Option.bind_some]
  have := zek at_ h0 h1 r.2.1 hsp hM.many.2 (T.z8.mk ⟨0,0⟩ ⟨true,[]⟩) at_ (IntKind.i64.wrap (at_ + (r.1.length : Int))) r.2.1.l.length 0 [] (by omega) (by simp)
  simp only [Int.natCast_zero] at this
  simp only [bne_self_eq_false,Bool.or_self,Bool.false_eq_true,if_false,this,Option.bind_some,if_true]
  rw [q9 (by omega) (by omega)]
 ·refine ⟨false,[],[],by simp,fun at_ h0 h1 => ?_⟩
  unfold q98
  simp only [hv,hr,Option.bind_eq_bind,Option.bind_some]
  rw [if_pos (by simp only [Bool.or_eq_true,bne_iff_ne,ne_eq]; omega)]
  rfl
theorem qdb.idx {a : Bytes} {st : List T.Stop} (h : qdb a st) (at_ : Int) : qci ⟨⟨at_,at_ + a.length⟩,⟨false,st.map (uz at_)⟩⟩ := by
 obtain ⟨H,hL,_⟩ := h.lay
 have := hL.shift at_
 refine Lay.idx (H := H) ?_
 rw [Int.zero_add,Int.add_comm] at this
 exact this
theorem qel (x n : Int) (hn : 0 < n) (hn2 : n ≤ 1000) : ∃ r : Int,q00 x n = some r ∧ 0 ≤ r ∧ r < n := by
 have hw : IntKind.u64.wrap n = n := by
  simp [IntKind.wrap,IntKind.signed,IntKind.bits]
  omega
 have h0 : 0 ≤ IntKind.u64.wrap x := by
  simp [IntKind.wrap,IntKind.signed,IntKind.bits]
  omega
 have h1 : (IntKind.u64.wrap x).tmod n = (IntKind.u64.wrap x) % n := Int.tmod_eq_emod_of_nonneg h0
 have h2 := Int.emod_nonneg (IntKind.u64.wrap x) (show n ≠ 0 by omega)
 have h3 := Int.emod_lt_of_pos (IntKind.u64.wrap x) hn
 refine ⟨(IntKind.u64.wrap x) % n, ?_,h2,h3⟩
 unfold q00
 rw [hw,if_pos (by omega),h1,q9 (by omega) (by omega)]
theorem zb5 (s : Bytes) (which by_ what : Int) : qdm s which by_ what = some true := by
 unfold qdm
 have hw : aw8 = some true := rfl
 obtain ⟨ok,a,st,h1,h2⟩ := z6u s
 have g := h2 5 (by omega) (by omega)
 cases ok with
 | false => rw [g]; simp [hw]
 | true =>
  have hM := h1 rfl
  rw [if_pos rfl] at g
  rw [g]
  obtain ⟨i,hi⟩ : ∃ i,T.z8.mk (T.Span.mk 5 (5 + (a.length : Int))) ⟨false,st.map (uz 5)⟩ = i := ⟨_,rfl⟩
  have hil : i.stops.l = st.map (uz 5) := by rw [← hi]
  have his : i.span = ⟨5,5 + (a.length : Int)⟩ := by rw [← hi]
  have hidx : qci i := hi ▸ hM.idx 5
  have hlen := hM.len
  have hmany := hM.many
  obtain ⟨t1,m1,m2⟩ := qjt i (by rw [hil,List.length_map]; omega) (5 + (a.length : Int))
  obtain ⟨t2,m3,m4⟩ := qjt i (by rw [hil,List.length_map]; omega) (5 + (a.length : Int) - 1)
  have u1 : t1 = true := m2.2 ⟨by rw [his]; simp only; omega,hidx⟩
  have u2 : t2 = false := by
   cases t2 with
   | false => rfl
   | true =>
    have := (m4.1 rfl).1.2.2
    rw [his] at this
    simp only at this
    omega
  subst u1 u2
  have p1 := qlu i _ _ m1
  have p2 := qlu i _ _ m3
  rw [hil,his] at p1 p2
  simp only at p1 p2
  obtain ⟨k,k1,k2,k3⟩ := qel which (st.map (uz 5)).length (by rw [List.length_map]; omega) (by rw [List.length_map]; omega)
  obtain ⟨b,b1,_,_⟩ := qel by_ 7 (by omega) (by omega)
  obtain ⟨b',b2,_,_⟩ := qel by_ 2 (by omega) (by omega)
  obtain ⟨w,w1,_,_⟩ := qel what 3 (by omega) (by omega)
  obtain ⟨k,rfl⟩ : ∃ n : Nat,k = n := ⟨k.toNat,by omega⟩
  have hkl : k < (st.map (uz 5)).length := by omega
  have hx := zx hkl
  generalize (st.map (uz 5))[k] = x at hx
  have same : ∀ (z : T.Stop) (n : Int),∃ t : Bool,mi (T.z8.mk (T.Span.mk 5 (5 + (a.length : Int))) ⟨false,(st.map (uz 5)).set k z⟩) n = some t ∧ q4v (T.z8.mk (T.Span.mk 5 (5 + (a.length : Int))) ⟨false,(st.map (uz 5)).set k z⟩) n = some t :=
   fun z n => StM.zk9 _ n (by simp only [List.length_set,List.length_map]; omega)
  simp only [Option.bind_eq_bind,Option.bind_some]
  split
  ·simp [hw]
  ·rw [q9 (n := 5 + (a.length : Int) - 1) (by omega) (by omega)]
   simp only [p1,p2,k1,b1,b2,w1,hx,Option.bind_some,Bool.not_true,Bool.false_eq_true,if_false,Int.toNat_natCast]
   split
   ·obtain ⟨t,e1,e2⟩ := same (T.Stop.mk (T.Span.mk (IntKind.i64.wrap (x.span.frm + IntKind.i64.wrap (b - 3))) x.span.to) x.n x.up x.first x.turned x.form x.opts) (IntKind.i64.wrap (5 + (a.length : Int) + b'))
    simp [e1,e2,hw]
   ·split
    ·obtain ⟨t,e1,e2⟩ := same (T.Stop.mk (T.Span.mk x.span.frm (IntKind.i64.wrap (x.span.to + IntKind.i64.wrap (b - 3)))) x.n x.up x.first x.turned x.form x.opts) (IntKind.i64.wrap (5 + (a.length : Int) + b'))
     simp [e1,e2,hw]
    ·obtain ⟨t,e1,e2⟩ := same (T.Stop.mk x.span x.n (IntKind.i64.wrap (x.up + IntKind.i64.wrap (b - 3))) x.first x.turned x.form x.opts) (IntKind.i64.wrap (5 + (a.length : Int) + b'))
     simp [e1,e2,hw]
end Go.Proofs.YtdhgdeelagmbpaaGreat
