/-
  Scripts: the program's reader of a line.
-/
import Derived.Test.YtaglodpkpggdiaaGreatDoorMau
set_option linter.unusedSimpArgs false
set_option linter.unusedVariables false
namespace Go.Proofs.YtaglodpkpggdiaaGreatDoor
open Go Go.Gm
def noE : Sl T.qd := ⟨true,([] : List T.qd)⟩
def noS : Sl T.Sel := ⟨true,([] : List T.Sel)⟩
def q05 (L : Bytes) : Nat → Nat → List T.qd → Option (List T.qd × Nat)
 | 0,_,_ => none
 | f + 1,k,acc => if L[k]? = some 32 then
   match j4 L k with
   | none => none
   | some (a,k1) => match j4 L k1 with
    | none => none
    | some (c,k2) => match wy L k2 with
     | none => none
     | some (t,k3) => q05 L f k3 (acc ++ [T.qd.mk (T.Span.mk a c) t])
  else some (acc,k)
def pq (L : Bytes) : Nat → Nat → List T.Sel → Option (List T.Sel × Nat)
 | 0,_,_ => none
 | f + 1,k,acc => if L[k]? = some 32 then
   match j4 L k with
   | none => none
   | some (a,k1) => match j4 L k1 with
    | none => none
    | some (c,k2) => pq L f k2 (acc ++ [T.Sel.mk a c])
  else some (acc,k)
def q37 (L : Bytes) (k : Nat) : Option (Bool × Nat) :=
 if L[k]? = some 32 then if L[k + 1]? = some 49 then some (true,k + 2) else if L[k + 1]? = some 48 then some (false,k + 2) else none else none
def q1m (w : Bytes) : Int :=
 if w = [110,101,120,116] then 8 else if w = [112,114,101,118] then 9 else if w = [108,101,97,118,101] then 10 else if w = [117,110,100,111] then 12 else if w = [114,101,100,111] then 13 else 0
def q5n (kd : Int) (x : Option (Bytes × Nat)) : Option (T.Op × Nat) := match x with | none => none | some (t,j) => some (T.Op.mk kd [] t 0 false noE noS,j)
def q5e (kd : Int) (x : Option (Int × Nat)) : Option (T.Op × Nat) := match x with | none => none | some (n,j) => some (T.Op.mk kd [] [] n false noE noS,j)
def q77 (L : Bytes) (k : Nat) : Option (T.Op × Nat) := match wy L k with
 | none => none
 | some (a,k1) => match wy L k1 with | none => none | some (t,k2) => some (T.Op.mk 1 a t 0 false noE noS,k2)
def q11 (L : Bytes) (k : Nat) : Option (T.Op × Nat) := match j4 L k with
 | none => none
 | some (n,k1) => match q37 L k1 with | none => none | some (x,k2) => some (T.Op.mk 6 [] [] n x noE noS,k2)
def q6o (L : Bytes) (k : Nat) : Option (T.Op × Nat) := match q05 L (L.length + 1) k [] with | none => none | some (es,j) => some (T.Op.mk 4 [] [] 0 false ⟨es.isEmpty,es⟩ noS,j)
def q7b (L : Bytes) (k : Nat) : Option (T.Op × Nat) := match pq L (L.length + 1) k [] with | none => none | some (ss,j) => some (T.Op.mk 5 [] [] 0 false noE ⟨ss.isEmpty,ss⟩,j)
def um (w : Bytes) (L : Bytes) (k : Nat) : Option (T.Op × Nat) :=
 if w = [115,101,116] then q77 L k
 else if w = [116,121,112,101] then q5n 2 (wy L k)
 else if w = [105,110,115,101,114,116] then q5n 7 (wy L k)
 else if w = [101,114,97,115,101] then q5e 3 (j4 L k)
 else if w = [99,104,111,111,115,101] then q5e 11 (j4 L k)
 else if w = [109,111,118,101] then q11 L k
 else if w = [101,100,105,116] then q6o L k
 else if w = [115,101,108,101,99,116] then q7b L k
 else if 0 < q1m w then some (T.Op.mk (q1m w) [] [] 0 false noE noS,k) else none
def uk {α : Type} (L : Bytes) (s : Option (α × Nat)) : Option (α × Nat) := match s with | none => none | some (o,j) => if L[j]? = some 10 then some (o,j + 1) else none
def q1v (L : Bytes) (k : Nat) : Option (T.Op × Nat) := uk L (um (yg L k).1 L (yg L k).2)
theorem q0i {α : Type} (b : Sl UInt8) (hb : b.l.length ≤ 65536) (o : α) (j : Nat) (ok : Bool) (hj : j ≤ b.l.length) (s : Option (α × Nat)) (h1 : ok = true → s = some (o,j)) (h2 : s ≠ none → ok = true)
  (x : Option (α × T.qb)) (hx : x = if (PR b j ok).ok_ = true then je 10 (PR b j ok) >>= fun v => some (o,T.qb.mk v.2.place v.1) else some (o,T.qb.mk (PR b j ok).place false)) :
  Ans b true (uk b.l s) x := by
 subst hx
 cases ok with
 | false =>
  refine ⟨o,j,false,rfl,hj,by simp,fun _ h => ?_⟩
  apply h2
  intro e
  rw [e] at h
  exact h rfl
 | true =>
  rw [h1 rfl]
  rw [if_pos (show (PR b j true).ok_ = true from rfl),q46 b j true 10 hb hj]
  refine ⟨o,if b.l[j]? = some 10 then j + 1 else j,decide (b.l[j]? = some 10),rfl, ?_, ?_, ?_⟩
  ·split
   ·exact at_lt (by assumption)
   ·exact hj
  ·intro h
   simp only [decide_eq_true_eq] at h
   refine ⟨rfl, ?_⟩
   unfold uk
   simp only
   rw [if_pos h,if_pos h]
  ·intro _ h
   unfold uk at h
   simp only at h
   split at h
   ·simp; assumption
   ·exact absurd rfl h
theorem z6r (b : Sl UInt8) (k : Nat) (hk : k ≤ b.l.length) (t2 : T.Op) (o : Int) (o2 o3 : Bytes) (o4 : Int) (o5 : Bool) (o6 : Sl T.Sel) (acc : List T.qd) :
  q2f (PR b k false,t2,o,o2,o3,o4,o5,o6,acc) = some (PR b k false,acc) := by
 rw [q2f.eq_1]
 rw [q4y b k false hk]
 simp
theorem qpu (b : Sl UInt8) (k : Nat) (hk : k ≤ b.l.length) (t2 : T.Op) (o : Int) (o2 o3 : Bytes) (o4 : Int) (o5 : Bool) (o6 : Sl T.qd) (acc : List T.Sel) :
  q2e (PR b k false,t2,o,o2,o3,o4,o5,o6,acc) = some (PR b k false,acc) := by
 rw [q2e.eq_1]
 rw [q4y b k false hk]
 simp
theorem qeu (b : Sl UInt8) (hb : b.l.length ≤ 65536) (t2 : T.Op) (o : Int) (o2 o3 : Bytes) (o4 : Int) (o5 : Bool) (o6 : Sl T.Sel) : ∀ (f k : Nat) (acc : List T.qd),k ≤ b.l.length → b.l.length - k < f → acc.length ≤ k →
  ∃ v j ok',q2f (PR b k true,t2,o,o2,o3,o4,o5,o6,acc) = some (PR b j ok',v) ∧ j ≤ b.l.length ∧ (ok' = true → q05 b.l f k acc = some (v,j)) ∧ (q05 b.l f k acc ≠ none → ok' = true)
 | 0,k,acc,hk,hf,ha => by omega
 | f + 1,k,acc,hk,hf,ha => by
  rw [q2f.eq_1]
  rw [q4y b k true hk]
  simp only [Option.bind_eq_bind,Option.bind_some,Bool.true_and,decide_eq_true_eq]
  by_cases hc : b.l[k]? = some 32
  ·rw [if_pos hc]
   obtain ⟨v1,j1,ok1,e1,l1,p1,q1⟩ := q2n b k true hb hk
   rw [e1]
   simp only [Option.bind_some]
   obtain ⟨v2,j2,ok2,e2,l2,p2,q2⟩ := q2n b j1 ok1 hb l1
   rw [e2]
   simp only [Option.bind_some]
   obtain ⟨v3,j3,ok3,e3,l3,p3,q3⟩ := q6m b j2 ok2 hb l2
   rw [e3]
   simp only [Option.bind_some]
   rw [if_pos (q04 (by omega) (by omega))]
   unfold q05
   rw [if_pos hc]
   cases ok3 with
   | true =>
    have h3 := p3 rfl
    have h2 := p2 h3.1
    have h1 := p1 h2.1
    rw [h1.2]
    simp only
    rw [h2.2]
    simp only
    rw [h3.2]
    simp only
    have g1 := q02 h1.2
    have g2 := q02 h2.2
    have g3 := q6u h3.2
    obtain ⟨v,j,ok',e,r1,r2,r3⟩ := qeu b hb t2 o o2 o3 o4 o5 o6 f j3 (acc ++ [T.qd.mk (T.Span.mk v1 v2) v3]) (by omega) (by omega) (by simp; omega)
    exact ⟨v,j,ok',e,r1,r2,r3⟩
   | false =>
    rw [z6r b j3 l3]
    refine ⟨_,j3,false,rfl,l3,by simp,fun h => ?_⟩
    exfalso
    cases h1 : j4 b.l k with
    | none => rw [h1] at h; exact h rfl
    | some m1 =>
     have o1 := q1 rfl (by rw [h1]; simp)
     have x1 := (p1 o1).2
     rw [h1] at x1
     cases x1
     rw [h1] at h
     simp only at h
     cases h2 : j4 b.l j1 with
     | none => rw [h2] at h; exact h rfl
     | some m2 =>
      have o2 := q2 o1 (by rw [h2]; simp)
      have x2 := (p2 o2).2
      rw [h2] at x2
      cases x2
      rw [h2] at h
      simp only at h
      cases h3 : wy b.l j2 with
      | none => rw [h3] at h; exact h rfl
      | some m3 =>
       have o3 := q3 o2 (by rw [h3]; simp)
       cases o3
  ·rw [if_neg hc]
   unfold q05
   rw [if_neg hc]
   exact ⟨acc,k,true,rfl,hk,fun _ => rfl,fun _ => rfl⟩
theorem qec (b : Sl UInt8) (hb : b.l.length ≤ 65536) (t2 : T.Op) (o : Int) (o2 o3 : Bytes) (o4 : Int) (o5 : Bool) (o6 : Sl T.qd) : ∀ (f k : Nat) (acc : List T.Sel),k ≤ b.l.length → b.l.length - k < f → acc.length ≤ k →
  ∃ v j ok',q2e (PR b k true,t2,o,o2,o3,o4,o5,o6,acc) = some (PR b j ok',v) ∧ j ≤ b.l.length ∧ (ok' = true → pq b.l f k acc = some (v,j)) ∧ (pq b.l f k acc ≠ none → ok' = true)
 | 0,k,acc,hk,hf,ha => by omega
 | f + 1,k,acc,hk,hf,ha => by
  rw [q2e.eq_1]
  rw [q4y b k true hk]
  simp only [Option.bind_eq_bind,Option.bind_some,Bool.true_and,decide_eq_true_eq]
  by_cases hc : b.l[k]? = some 32
  ·rw [if_pos hc]
   obtain ⟨v1,j1,ok1,e1,l1,p1,q1⟩ := q2n b k true hb hk
   rw [e1]
   simp only [Option.bind_some]
   obtain ⟨v2,j2,ok2,e2,l2,p2,q2⟩ := q2n b j1 ok1 hb l1
   rw [e2]
   simp only [Option.bind_some]
   rw [if_pos (q04 (by omega) (by omega))]
   unfold pq
   rw [if_pos hc]
   cases ok2 with
   | true =>
    have h2 := p2 rfl
    have h1 := p1 h2.1
    rw [h1.2]
    simp only
    rw [h2.2]
    simp only
    have g1 := q02 h1.2
    have g2 := q02 h2.2
    obtain ⟨v,j,ok',e,r1,r2,r3⟩ := qec b hb t2 o o2 o3 o4 o5 o6 f j2 (acc ++ [T.Sel.mk v1 v2]) (by omega) (by omega) (by simp; omega)
    exact ⟨v,j,ok',e,r1,r2,r3⟩
   | false =>
    rw [qpu b j2 l2]
    refine ⟨_,j2,false,rfl,l2,by simp,fun h => ?_⟩
    exfalso
    cases h1 : j4 b.l k with
    | none => rw [h1] at h; exact h rfl
    | some m1 =>
     have o1 := q1 rfl (by rw [h1]; simp)
     have x1 := (p1 o1).2
     rw [h1] at x1
     cases x1
     rw [h1] at h
     simp only at h
     cases h2 : j4 b.l j1 with
     | none => rw [h2] at h; exact h rfl
     | some m2 =>
      have o2 := q2 o1 (by rw [h2]; simp)
      cases o2
  ·rw [if_neg hc]
   unfold pq
   rw [if_neg hc]
   exact ⟨acc,k,true,rfl,hk,fun _ => rfl,fun _ => rfl⟩
theorem ze6 (w : Bytes) : mh w = some (q1m w) := by
 unfold mh q1m
 simp only [beq_iff_eq]
 repeat' split
 all_goals rfl
theorem qft {b : Sl UInt8} {kd : Int} {s : Option (Bytes × Nat)} {v : Bytes} {j : Nat} {ok : Bool} (h1 : ok = true → true = true ∧ s = some (v,j)) (h2 : true = true → s ≠ none → ok = true) :
  (ok = true → q5n kd s = some (T.Op.mk kd [] v 0 false noE noS,j)) ∧ (q5n kd s ≠ none → ok = true) := by
 refine ⟨fun h => ?_,fun h => h2 rfl fun e => ?_⟩
 ·rw [(h1 h).2]; rfl
 ·rw [e] at h; exact h rfl
theorem qc7 {b : Sl UInt8} {kd : Int} {s : Option (Int × Nat)} {v : Int} {j : Nat} {ok : Bool} (h1 : ok = true → true = true ∧ s = some (v,j)) (h2 : true = true → s ≠ none → ok = true) :
  (ok = true → q5e kd s = some (T.Op.mk kd [] [] v false noE noS,j)) ∧ (q5e kd s ≠ none → ok = true) := by
 refine ⟨fun h => ?_,fun h => h2 rfl fun e => ?_⟩
 ·rw [(h1 h).2]; rfl
 ·rw [e] at h; exact h rfl
theorem pOp (b : Sl UInt8) (k : Nat) (hb : b.l.length ≤ 65536) (hk : k ≤ b.l.length) : Ans b true (q1v b.l k) (q7c (PR b k true)) := by
 unfold q7c q1v
 rw [qf1 b k true hb hk]
 have hw := qd5 b.l k hk
 generalize (yg b.l k).1 = w
 generalize (yg b.l k).2 = m at hw
 unfold um
 refine (?_ : Ans b true _ (if (w == ([115,101,116] : Bytes)) = true then _ else _))
 by_cases c1 : w = [115,101,116]
 ·rw [if_pos (beq_iff_eq.mpr c1),if_pos c1]
  dsimp only
  obtain ⟨v1,j1,ok1,e1,l1,p1,q1⟩ := q6m b m true hb hw
  rw [e1]
  simp only [Option.bind_eq_bind,Option.bind_some]
  obtain ⟨v2,j2,ok2,e2,l2,p2,q2⟩ := q6m b j1 ok1 hb l1
  rw [e2]
  simp only [Option.bind_eq_bind,Option.bind_some]
  refine q0i b hb (T.Op.mk 1 v1 v2 0 false noE noS) j2 ok2 l2 _ (fun h => ?_) (fun h => ?_) _ rfl
  ·have h2 := p2 h
   have h1 := p1 h2.1
   unfold q77
   rw [h1.2]
   simp only
   rw [h2.2]
  ·unfold q77 at h
   cases h1 : wy b.l m with
   | none => rw [h1] at h; exact absurd rfl h
   | some m1 =>
    have o1 := q1 rfl (by rw [h1]; simp)
    have x1 := (p1 o1).2
    rw [h1] at x1
    cases x1
    rw [h1] at h
    simp only at h
    cases h2 : wy b.l j1 with
    | none => rw [h2] at h; exact absurd rfl h
    | some m2 => exact q2 o1 (by rw [h2]; simp)
 rw [if_neg (fun h => c1 (beq_iff_eq.mp h)),if_neg c1]
 by_cases c2 : w = [116,121,112,101]
 ·rw [if_pos (beq_iff_eq.mpr c2),if_pos c2]
  dsimp only
  obtain ⟨v1,j1,ok1,e1,l1,p1,q1⟩ := q6m b m true hb hw
  rw [e1]
  simp only [Option.bind_eq_bind,Option.bind_some]
  have h := qft (b := b) (kd := 2) p1 q1
  exact q0i b hb _ j1 ok1 l1 _ h.1 h.2 _ rfl
 rw [if_neg (fun h => c2 (beq_iff_eq.mp h)),if_neg c2]
 by_cases c3 : w = [105,110,115,101,114,116]
 ·rw [if_pos (beq_iff_eq.mpr c3),if_pos c3]
  dsimp only
  obtain ⟨v1,j1,ok1,e1,l1,p1,q1⟩ := q6m b m true hb hw
  rw [e1]
  simp only [Option.bind_eq_bind,Option.bind_some]
  have h := qft (b := b) (kd := 7) p1 q1
  exact q0i b hb _ j1 ok1 l1 _ h.1 h.2 _ rfl
 rw [if_neg (fun h => c3 (beq_iff_eq.mp h)),if_neg c3]
 by_cases c4 : w = [101,114,97,115,101]
 ·rw [if_pos (beq_iff_eq.mpr c4),if_pos c4]
  dsimp only
  obtain ⟨v1,j1,ok1,e1,l1,p1,q1⟩ := q2n b m true hb hw
  rw [e1]
  simp only [Option.bind_eq_bind,Option.bind_some]
  have h := qc7 (b := b) (kd := 3) p1 q1
  exact q0i b hb _ j1 ok1 l1 _ h.1 h.2 _ rfl
 rw [if_neg (fun h => c4 (beq_iff_eq.mp h)),if_neg c4]
 by_cases c5 : w = [99,104,111,111,115,101]
 ·rw [if_pos (beq_iff_eq.mpr c5),if_pos c5]
  dsimp only
  obtain ⟨v1,j1,ok1,e1,l1,p1,q1⟩ := q2n b m true hb hw
  rw [e1]
  simp only [Option.bind_eq_bind,Option.bind_some]
  have h := qc7 (b := b) (kd := 11) p1 q1
  exact q0i b hb _ j1 ok1 l1 _ h.1 h.2 _ rfl
 rw [if_neg (fun h => c5 (beq_iff_eq.mp h)),if_neg c5]
 by_cases c6 : w = [109,111,118,101]
 ·rw [if_pos (beq_iff_eq.mpr c6),if_pos c6]
  dsimp only
  obtain ⟨v1,j1,ok1,e1,l1,p1,q1⟩ := q2n b m true hb hw
  rw [e1]
  simp only [Option.bind_eq_bind,Option.bind_some]
  obtain ⟨j2,e2,l2,p2⟩ := qaw b j1 ok1 hb l1
  rw [e2]
  simp only [Option.bind_eq_bind,Option.bind_some]
  rw [q46 b j2 _ 49 hb l2]
  simp only [Option.bind_eq_bind,Option.bind_some]
  cases hok : (ok1 && decide (b.l[j1]? = some 32)) with
  | false =>
   rw [if_neg (by simp [PR])]
   refine ⟨_,if b.l[j2]? = some 49 then j2 + 1 else j2,false,rfl, ?_,by simp,fun _ h => ?_⟩
   ·split
    ·exact at_lt (by assumption)
    ·exact l2
   ·exfalso
    unfold q11 at h
    cases h1 : j4 b.l m with
    | none => rw [h1] at h; exact h rfl
    | some m1 =>
     have o1 := q1 rfl (by rw [h1]; simp)
     have x1 := (p1 o1).2
     rw [h1] at x1
     cases x1
     rw [h1] at h
     simp only at h
     rw [o1] at hok
     simp only [Bool.true_and,decide_eq_false_iff_not] at hok
     unfold q37 at h
     rw [if_neg hok] at h
     exact h rfl
  | true =>
   simp only [Bool.and_eq_true,decide_eq_true_eq] at hok
   have h1 := p1 hok.1
   have hj2 := p2 hok.1 hok.2
   subst hj2
   rw [if_pos (by simp [PR])]
   by_cases h49 : b.l[j1 + 1]? = some 49
   ·have hlt := at_lt h49
    have hm : q11 b.l m = some (T.Op.mk 6 [] [] v1 true noE noS,j1 + 2) := by
     unfold q11 q37
     rw [h1.2]
     simp only
     rw [if_pos hok.2,if_pos h49]
    rw [if_pos (by simp [h49]),hm]
    simp only [h49,decide_true,if_true]
    exact q0i b hb (T.Op.mk 6 [] [] v1 true noE noS) (j1 + 2) true (by omega) _ (fun _ => rfl) (fun _ => rfl) _ rfl
   ·rw [if_neg (by simp [h49]),if_neg h49]
    rw [q46 b (j1 + 1) true 48 hb l2]
    simp only [Option.bind_some,decide_eq_true_eq]
    by_cases h48 : b.l[j1 + 1]? = some 48
    ·have hlt := at_lt h48
     have hm : q11 b.l m = some (T.Op.mk 6 [] [] v1 false noE noS,j1 + 2) := by
      unfold q11 q37
      rw [h1.2]
      simp only
      rw [if_pos hok.2,if_neg h49,if_pos h48]
     rw [if_pos h48,hm,if_pos h48]
     simp only [h48,h49,decide_true,decide_false]
     exact q0i b hb (T.Op.mk 6 [] [] v1 false noE noS) (j1 + 2) true (by omega) _ (fun _ => rfl) (fun _ => rfl) _ rfl
    ·have hm : q11 b.l m = none := by
      unfold q11 q37
      rw [h1.2]
      simp only
      rw [if_pos hok.2,if_neg h49,if_neg h48]
     rw [if_neg h48,hm,if_neg h48]
     exact ⟨_,j1 + 1,false,rfl,l2,by simp,fun _ h => absurd rfl h⟩
 rw [if_neg (fun h => c6 (beq_iff_eq.mp h)),if_neg c6]
 by_cases c7 : w = [101,100,105,116]
 ·rw [if_pos (beq_iff_eq.mpr c7),if_pos c7]
  dsimp only
  obtain ⟨v1,j1,ok1,e1,l1,p1,q1⟩ := qeu b hb (T.Op.mk (0 : Int) ([] : Bytes) ([] : Bytes) (0 : Int) false (⟨true,([] : List T.qd)⟩ : (Sl T.qd)) (⟨true,([] : List T.Sel)⟩ : (Sl T.Sel))) 4 [] [] 0 false (⟨true,([] : List T.Sel)⟩ : Sl T.Sel) (b.l.length + 1) m [] hw (by omega) (by simp)
  rw [e1]
  simp only [Option.bind_eq_bind,Option.bind_some]
  refine q0i b hb (T.Op.mk 4 [] [] 0 false ⟨v1.isEmpty,v1⟩ noS) j1 ok1 l1 _ (fun h => ?_) (fun h => q1 fun e => ?_) _ rfl
  ·unfold q6o
   rw [p1 h]
  ·unfold q6o at h
   rw [e] at h
   exact h rfl
 rw [if_neg (fun h => c7 (beq_iff_eq.mp h)),if_neg c7]
 by_cases c8 : w = [115,101,108,101,99,116]
 ·rw [if_pos (beq_iff_eq.mpr c8),if_pos c8]
  dsimp only
  obtain ⟨v1,j1,ok1,e1,l1,p1,q1⟩ := qec b hb (T.Op.mk (0 : Int) ([] : Bytes) ([] : Bytes) (0 : Int) false (⟨true,([] : List T.qd)⟩ : (Sl T.qd)) (⟨true,([] : List T.Sel)⟩ : (Sl T.Sel))) 5 [] [] 0 false (⟨true,([] : List T.qd)⟩ : Sl T.qd) (b.l.length + 1) m [] hw (by omega) (by simp)
  rw [e1]
  simp only [Option.bind_eq_bind,Option.bind_some]
  refine q0i b hb (T.Op.mk 5 [] [] 0 false noE ⟨v1.isEmpty,v1⟩) j1 ok1 l1 _ (fun h => ?_) (fun h => q1 fun e => ?_) _ rfl
  ·unfold q7b
   rw [p1 h]
  ·unfold q7b at h
   rw [e] at h
   exact h rfl
 rw [if_neg (fun h => c8 (beq_iff_eq.mp h)),if_neg c8]
 ·dsimp only
  rw [ze6]
  simp only [Option.bind_eq_bind,Option.bind_some]
  by_cases hp : 0 < q1m w
  ·rw [if_pos (show ((PR b m true).ok_ && decide (q1m w > 0)) = true by simp [PR,hp]),if_pos hp]
   refine q0i b hb (T.Op.mk (q1m w) [] [] 0 false noE noS) m true hw _ (fun _ => rfl) (fun _ => rfl) _ ?_
   rw [if_pos (show (PR b m true).ok_ = true from rfl)]
   have : decide (q1m w > 0) = true := by simp [hp]
   rw [this]
   rfl
  ·rw [if_neg (show ¬ ((PR b m true).ok_ && decide (q1m w > 0)) = true by simp [PR]; omega),if_neg hp]
   exact ⟨_,m,false,rfl,hw,by simp,fun _ h => absurd rfl h⟩
end Go.Proofs.YtaglodpkpggdiaaGreatDoor
