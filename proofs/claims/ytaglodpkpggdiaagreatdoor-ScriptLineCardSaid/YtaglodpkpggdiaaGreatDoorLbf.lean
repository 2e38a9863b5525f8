/-
  Scripts: operations that are fitted; sizes.
-/
import Derived.Test.YtaglodpkpggdiaaGreatDoorLbe
set_option linter.unusedSimpArgs false
set_option linter.unusedVariables false
namespace Go.Proofs.YtaglodpkpggdiaaGreatDoor
open Go Go.Gm
theorem qdp (x n : Int) (hn : 0 < n) (hn2 : n ≤ 1000) : ∃ r : Int,q62 x n = some r ∧ 0 ≤ r ∧ r < n := by
 have hw : IntKind.u64.wrap n = n := by
  simp [IntKind.wrap,IntKind.signed,IntKind.bits]
  omega
 have h0 : 0 ≤ IntKind.u64.wrap x := by
  simp [IntKind.wrap,IntKind.signed,IntKind.bits]
  omega
 have h1 : (IntKind.u64.wrap x).tmod n = (IntKind.u64.wrap x) % n := Int.tmod_eq_emod_of_nonneg h0
 have h2 := Int.emod_nonneg (IntKind.u64.wrap x) (show n ≠ 0 by omega)
 have h3 := Int.emod_lt_of_pos (IntKind.u64.wrap x) hn
 refine ⟨(IntKind.u64.wrap x) % n, ?_,h2,h3⟩
 unfold q62
 rw [hw,if_pos (by omega),h1,qac (by omega) (by omega)]
theorem q98 (x : Int) : zo (x.tmod 1000000000000000000) = true := by
 have h1 := Int.tmod_lt_of_pos x (show (0 : Int) < 1000000000000000000 by decide)
 have h2 := Int.lt_tmod_of_pos x (show (0 : Int) < 1000000000000000000 by decide)
 unfold zo
 simp
 omega
theorem q6x {n : Int} (h : zo n = true) : inI n := by
 unfold zo at h
 simp at h
 exact ⟨by omega,by omega⟩
def q78 (e : T.qb) : T.qb := ⟨⟨e.span.frm.tmod 1000000000000000000,e.span.to.tmod 1000000000000000000⟩,e.text⟩
def q8h (x : T.Sel) : T.Sel := ⟨x.anchor.tmod 1000000000000000000,x.head.tmod 1000000000000000000⟩
theorem qiw (l : List T.qb) : q23 (l.map q78) = true := by
 induction l with
 | nil => rfl
 | cons e l ih => rw [List.map_cons,qbk,ih]; simp [q78,q98]
theorem zu6 (l : List T.Sel) : q1y (l.map q8h) = true := by
 induction l with
 | nil => rfl
 | cons e l ih => rw [List.map_cons,qb0,ih]; simp [q8h,q98]
theorem zkr (l : List T.qb) : xx (l.map q78) = xx l := by
 induction l with
 | nil => rfl
 | cons e l ih => rw [List.map_cons,q5a,q5a,ih]; rfl
theorem qec (os : Sl T.Op) (i : Int) (x : T.Op) (hx : ql os.l i = some x) (hl : x.edits.l.length ≤ 1000) (out : List T.Op) (o : Int) (o2 o3 : Bytes) (o4 : Int) (o5 : Bool) (o6 : Sl T.Sel) : ∀ (r : List T.qb) (k : Nat) (acc : List T.qb),x.edits.l.drop k = r → k ≤ x.edits.l.length → acc.length ≤ k →
  q30 (os,i,(k : Int),out,o,o2,o3,o4,o5,o6,acc) = some (acc ++ r.map q78)
 | [],k,acc,h,hk,ha => by
  obtain ⟨g1,g2⟩ := drop_nil h hk
  rw [q30.eq_1,hx]
  simp only [Option.bind_eq_bind,Option.bind_some]
  rw [if_neg (by simp; omega)]
  simp
 | e :: r,k,acc,h,hk,ha => by
  obtain ⟨g1,g2,g3,g4⟩ := drop_cons h
  rw [q30.eq_1,hx]
  simp only [Option.bind_eq_bind,Option.bind_some]
  rw [if_pos (by simp; omega),g1]
  simp only [Option.bind_some]
  rw [if_pos (ni (by omega) (by omega)),jy (by omega),qec os i x hx hl out o o2 o3 o4 o5 o6 r (k + 1) _ g4 (by omega) (by simp; omega)]
  simp [q78]
theorem qe8 (os : Sl T.Op) (i : Int) (x : T.Op) (hx : ql os.l i = some x) (hl : x.sels.l.length ≤ 1000) (out : List T.Op) (o : Int) (o2 o3 : Bytes) (o4 : Int) (o5 : Bool) (o6 : Sl T.qb) : ∀ (r : List T.Sel) (k : Nat) (acc : List T.Sel),x.sels.l.drop k = r → k ≤ x.sels.l.length → acc.length ≤ k →
  q35 (os,i,(k : Int),out,o,o2,o3,o4,o5,o6,acc) = some (acc ++ r.map q8h)
 | [],k,acc,h,hk,ha => by
  obtain ⟨g1,g2⟩ := drop_nil h hk
  rw [q35.eq_1,hx]
  simp only [Option.bind_eq_bind,Option.bind_some]
  rw [if_neg (by simp; omega)]
  simp
 | e :: r,k,acc,h,hk,ha => by
  obtain ⟨g1,g2,g3,g4⟩ := drop_cons h
  rw [q35.eq_1,hx]
  simp only [Option.bind_eq_bind,Option.bind_some]
  rw [if_pos (by simp; omega),g1]
  simp only [Option.bind_some]
  rw [if_pos (ni (by omega) (by omega)),jy (by omega),qe8 os i x hx hl out o o2 o3 o4 o5 o6 r (k + 1) _ g4 (by omega) (by simp; omega)]
  simp [q8h]
theorem qfg (os : Sl T.Op) (hl : os.l.length ≤ 100000) (hf : ∀ o ∈ os.l,Few o) : ∀ (r : List T.Op) (k : Nat) (out : List T.Op),os.l.drop k = r → k ≤ os.l.length → out.length ≤ k →
  ∃ l,uh (os,(k : Int),out) = some (out ++ l) ∧ l.length = r.length ∧ ∀ o ∈ l,Can o ∧ Few o
 | [],k,out,h,hk,ha => by
  obtain ⟨g1,g2⟩ := drop_nil h hk
  rw [uh.eq_1,if_neg (by simp; omega)]
  exact ⟨[],by simp,rfl,by simp⟩
 | x :: r,k,out,h,hk,ha => by
  obtain ⟨g1,g2,g3,g4⟩ := drop_cons h
  obtain ⟨f1,f2,f3,f4,f5⟩ := hf x (List.mem_of_getElem? g2)
  rw [uh.eq_1,if_pos (by simp; omega),g1]
  simp only [Option.bind_eq_bind,Option.bind_some]
  obtain ⟨v,v1,v2,v3⟩ := qdp x.kind 13 (by omega) (by omega)
  rw [v1]
  simp only [Option.bind_some]
  have hw : IntKind.i64.wrap (1 + v) = 1 + v := xn
  rw [hw]
  have fin : ∀ o' : T.Op,Can o' ∧ Few o' → ∃ l,(if zf (out.length + 1) 104 = true then uh (os,IntKind.i64.wrap ((k : Int) + 1),out ++ [o']) else none) = some (out ++ l) ∧ l.length = (x :: r).length ∧ ∀ o ∈ l,Can o ∧ Few o := by
   intro o' hc
   obtain ⟨l,a1,a2,a3⟩ := qfg os hl hf r (k + 1) (out ++ [o']) g4 (by omega) (by simp; omega)
   refine ⟨o' :: l, ?_,by simp [a2], ?_⟩
   ·rw [if_pos (ni (by omega) (by omega)),jy (by omega),a1]
    simp
   ·intro o ho
    rcases List.mem_cons.1 ho with rfl | ho
    ·exact hc
    ·exact a3 o ho
  by_cases c1 : 1 + v = 1
  ·rw [if_pos (by simpa using c1)]
   refine fin _ ⟨⟨?_,rfl,rfl⟩,f1,f2,by simp,by simp [xx],by simp⟩
   simp [xe,ve,zo,c1]
  rw [if_neg (by simpa using c1)]
  by_cases c2 : 1 + v = 2 ∨ 1 + v = 7
  ·rw [if_pos (by simpa using c2)]
   refine fin _ ⟨⟨?_,rfl,rfl⟩,by simp,f2,by simp,by simp [xx],by simp⟩
   rcases c2 with c | c <;> simp [xe,ve,zo,c]
  rw [if_neg (by simpa using c2)]
  by_cases c3 : 1 + v = 3 ∨ 1 + v = 11
  ·rw [if_pos (by simpa using c3)]
   refine fin _ ⟨⟨?_,rfl,rfl⟩,by simp,by simp,by simp,by simp [xx],by simp⟩
   rcases c3 with c | c <;> simp [xe,ve,q98,c]
  rw [if_neg (by simpa using c3)]
  by_cases c4 : 1 + v = 6
  ·rw [if_pos (by simpa using c4)]
   refine fin _ ⟨⟨?_,rfl,rfl⟩,by simp,by simp,by simp,by simp [xx],by simp⟩
   simp [xe,ve,q98,c4]
  rw [if_neg (by simpa using c4)]
  by_cases c5 : 1 + v = 4
  ·rw [if_pos (by simpa using c5)]
   have h3 := qec os (k : Int) x g1 (by omega) out (1 + v) [] [] 0 false ⟨true,[]⟩ x.edits.l 0 [] rfl (by omega) (by simp)
   rw [Int.natCast_zero] at h3
   rw [h3]
   simp only [Option.bind_some,List.nil_append]
   refine fin _ ⟨⟨?_,rfl,rfl⟩,by simp,by simp,by simpa using f3,by rw [zkr]; exact f4,by simp⟩
   simp [xe,ve,zo,qiw,c5]
  rw [if_neg (by simpa using c5)]
  by_cases c6 : 1 + v = 5
  ·rw [if_pos (by simpa using c6)]
   have h3 := qe8 os (k : Int) x g1 (by omega) out (1 + v) [] [] 0 false ⟨true,[]⟩ x.sels.l 0 [] rfl (by omega) (by simp)
   rw [Int.natCast_zero] at h3
   rw [h3]
   simp only [Option.bind_some,List.nil_append]
   refine fin _ ⟨⟨?_,rfl,rfl⟩,by simp,by simp,by simp,by simp [xx],by simpa using f5⟩
   simp [xe,ve,zo,zu6,c6]
  rw [if_neg (by simpa using c6)]
  refine fin _ ⟨⟨?_,rfl,rfl⟩,by simp,by simp,by simp,by simp [xx],by simp⟩
  simp [xe,ve,zo]
  omega
theorem zp1 (os : Sl T.Op) (hl : os.l.length ≤ 100000) (hf : ∀ o ∈ os.l,Few o) : ∃ l,q6h os = some ⟨l.isEmpty,l⟩ ∧ l.length = os.l.length ∧ ∀ o ∈ l,Can o ∧ Few o := by
 obtain ⟨l,a1,a2,a3⟩ := qfg os hl hf os.l 0 [] rfl (by omega) (by simp)
 rw [Int.natCast_zero] at a1
 refine ⟨l, ?_,a2,a3⟩
 unfold q6h
 rw [a1]
 rfl
theorem Few.texts {o : T.Op} (h : Few o) : Texts o := by
 obtain ⟨f1,f2,f3,f4,f5⟩ := h
 exact ⟨by omega,by omega,fun e he => by have := qhb he; omega⟩
theorem z8a {o : T.Op} (h : Can o) : inI o.n ∧ (∀ e ∈ o.edits.l,inI e.span.frm ∧ inI e.span.to) ∧ (∀ e ∈ o.sels.l,inI e.anchor ∧ inI e.head) ∧ (o.name ≠ [] → o.kind = 1) ∧ (o.text ≠ [] → o.kind = 1 ∨ o.kind = 2 ∨ o.kind = 7) ∧ (o.edits.l ≠ [] → o.kind = 4) ∧ (o.sels.l ≠ [] → o.kind = 5) := by
 obtain ⟨h1,_,_⟩ := h
 unfold xe at h1
 simp only [Bool.and_eq_true,Bool.or_eq_true,decide_eq_true_eq,beq_iff_eq,bne_iff_ne,ne_eq,ve,Bool.not_eq_true'] at h1
 obtain ⟨⟨⟨⟨⟨⟨⟨⟨⟨⟨a1,a2⟩,a3⟩,a4⟩,a5⟩,a6⟩,a7⟩,a8⟩,a9⟩,b1⟩,b2⟩ := h1
 have e0 : o.edits.l ≠ [] → o.kind = 4 := by
  intro hne
  rcases b1 with h | h
  ·exact h
  ·exact absurd (List.length_eq_zero_iff.1 (by omega)) hne
 have s0 : o.sels.l ≠ [] → o.kind = 5 := by
  intro hne
  rcases b2 with h | h
  ·exact h
  ·exact absurd (List.length_eq_zero_iff.1 (by omega)) hne
 refine ⟨q6x a3,fun e he => ?_,fun e he => ?_,fun hne => ?_,fun hne => ?_,e0,s0⟩
 ·have hk := e0 (List.ne_nil_of_mem he)
  rcases a4 with h | h
  ·exact absurd hk h
  ·unfold q23 at h
   have := List.all_eq_true.1 h e he
   simp only [Bool.and_eq_true] at this
   exact ⟨q6x this.1,q6x this.2⟩
 ·have hk := s0 (List.ne_nil_of_mem he)
  rcases a5 with h | h
  ·exact absurd hk h
  ·unfold q1y at h
   have := List.all_eq_true.1 h e he
   simp only [Bool.and_eq_true] at this
   exact ⟨q6x this.1,q6x this.2⟩
 ·rcases a6 with h | h
  ·exact h
  ·exact absurd h hne
 ·rcases a7 with ((h | h) | h) | h
  ·exact .inl h
  ·exact .inr (.inl h)
  ·exact .inr (.inr h)
  ·exact absurd h hne
theorem qg0 {o : T.Op} (h : Can o) (hf : Few o) : q74 o := by
 obtain ⟨p1,p2,p3,_⟩ := z8a h
 obtain ⟨f1,f2,f3,f4,f5⟩ := hf
 refine ⟨p1,by omega,by omega,by omega,fun e he => ⟨(p2 e he).1,(p2 e he).2, ?_⟩,by omega,p3⟩
 have := qhb he
 omega
theorem zjo {o : T.Op} (h : Can o) (hf : Few o) : (qo o).length ≤ 3000 := by
 obtain ⟨g1,g2,g3,g4,g5,g6,g7⟩ := qg0 h hf
 obtain ⟨f1,f2,f3,f4,f5⟩ := hf
 have lt := q60 g3
 have ln := q60 g2
 have lm := gp g1
 have l4 : ∀ l : List T.qb,(∀ e ∈ l,inI e.span.frm ∧ inI e.span.to ∧ e.text.length ≤ 100000) → (edB l).length ≤ l.length * 64 + xx l := by
  intro l
  induction l with
  | nil => intro _; simp [edB,xx]
  | cons e l ih =>
   intro hh
   obtain ⟨a1,a2,a3⟩ := hh e (by simp)
   have b1 := gp a1
   have b2 := gp a2
   have b3 := q60 a3
   have := ih fun e he => hh e (by simp [he])
   rw [q5s,List.length_cons,Nat.succ_mul,q5a]
   simp only [List.length_append]
   omega
 have l5 : ∀ l : List T.Sel,(∀ e ∈ l,inI e.anchor ∧ inI e.head) → (seB l).length ≤ l.length * 42 := by
  intro l
  induction l with
  | nil => intro _; simp [seB]
  | cons e l ih =>
   intro hh
   obtain ⟨a1,a2⟩ := hh e (by simp)
   have b1 := gp a1
   have b2 := gp a2
   have := ih fun e he => hh e (by simp [he])
   rw [q4d,List.length_cons,Nat.succ_mul]
   simp only [List.length_append]
   omega
 have e4 := l4 _ g5
 have e5 := l5 _ g7
 unfold qo bf
 refine gz ?_ (gz ?_ (gz ?_ (gz ?_ (gz ?_ (gz ?_ (gz ?_ (gz ?_ (gz ?_ (gz ?_ (gz ?_ (gz ?_ (gz ?_ ?_))))))))))))
 rotate_left 5
 ·rw [List.length_append]
  have : (if o.extend = true then ([32,49] : Bytes) else [32,48]).length ≤ 2 := gz (by simp) (by simp)
  simp only [List.length_append,List.length_cons,List.length_nil]
  omega
 all_goals (try simp only [List.length_append,List.length_cons,List.length_nil])
 all_goals omega
theorem zuy {l : List T.Op} (h : ∀ o ∈ l,Can o ∧ Few o) : (opB l).length ≤ l.length * 3001 := by
 induction l with
 | nil => simp [opB]
 | cons o l ih =>
  have h1 := zjo (h o (by simp)).1 (h o (by simp)).2
  have h2 := ih fun x hx => h x (by simp [hx])
  rw [q6j,List.length_cons,Nat.succ_mul]
  simp only [List.length_append,List.length_cons,List.length_nil]
  omega
theorem qmx {l : List T.Op} (h : ∀ o ∈ l,Can o) : q1b l = true := by
 unfold q1b
 rw [List.all_eq_true]
 exact fun o ho => (h o ho).1
end Go.Proofs.YtaglodpkpggdiaaGreatDoor
