/-
  Scripts: operations that are fitted; sizes.
-/
import Derived.Test.YtaglodpkpggdiaaGreatDoorAbe
set_option linter.unusedSimpArgs false
set_option linter.unusedVariables false
namespace Go.Proofs.YtaglodpkpggdiaaGreatDoor
open Go Go.Gm
theorem zuf (x n : Int) (hn : 0 < n) (hn2 : n ≤ 1000) : ∃ r : Int,q7c x n = some r ∧ 0 ≤ r ∧ r < n := by
 have hw : IntKind.u64.wrap n = n := by
  simp [IntKind.wrap,IntKind.signed,IntKind.bits]
  omega
 have h0 : 0 ≤ IntKind.u64.wrap x := by
  simp [IntKind.wrap,IntKind.signed,IntKind.bits]
  omega
 have h1 : (IntKind.u64.wrap x).tmod n = (IntKind.u64.wrap x) % n := Int.tmod_eq_emod_of_nonneg h0
 have h2 := Int.emod_nonneg (IntKind.u64.wrap x) (show n ≠ 0 by omega)
 have h3 := Int.emod_lt_of_pos (IntKind.u64.wrap x) hn
 refine ⟨(IntKind.u64.wrap x) % n, ?_,h2,h3⟩
 unfold q7c
 rw [hw,if_pos (by omega),h1,qa5 (by omega) (by omega)]
theorem q9l (x : Int) : zb (x.tmod 1000000000000000000) = true := by
 have h1 := Int.tmod_lt_of_pos x (show (0 : Int) < 1000000000000000000 by decide)
 have h2 := Int.lt_tmod_of_pos x (show (0 : Int) < 1000000000000000000 by decide)
 unfold zb
 simp
 omega
theorem q7w {n : Int} (h : zb n = true) : inI n := by
 unfold zb at h
 simp at h
 exact ⟨by omega,by omega⟩
def q7h (e : T.qb) : T.qb := ⟨⟨e.span.frm.tmod 1000000000000000000,e.span.to.tmod 1000000000000000000⟩,e.text⟩
def q8w (x : T.Sel) : T.Sel := ⟨x.anchor.tmod 1000000000000000000,x.head.tmod 1000000000000000000⟩
theorem qkh (l : List T.qb) : q1o (l.map q7h) = true := by
 induction l with
 | nil => rfl
 | cons e l ih => rw [List.map_cons,q8n,ih]; simp [q7h,q9l]
theorem zic (l : List T.Sel) : q15 (l.map q8w) = true := by
 induction l with
 | nil => rfl
 | cons e l ih => rw [List.map_cons,q8x,ih]; simp [q8w,q9l]
theorem qn9 (l : List T.qb) : xz (l.map q7h) = xz l := by
 induction l with
 | nil => rfl
 | cons e l ih => rw [List.map_cons,q5s,q5s,ih]; rfl
theorem qga (os : Sl T.Op) (i : Int) (x : T.Op) (hx : ql os.l i = some x) (hl : x.edits.l.length ≤ 1000) (out : List T.Op) (o : Int) (o2 o3 : Bytes) (o4 : Int) (o5 : Bool) (o6 : Sl T.Sel) : ∀ (r : List T.qb) (k : Nat) (acc : List T.qb),x.edits.l.drop k = r → k ≤ x.edits.l.length → acc.length ≤ k →
  q3x (os,i,(k : Int),out,o,o2,o3,o4,o5,o6,acc) = some (acc ++ r.map q7h)
 | [],k,acc,h,hk,ha => by
  obtain ⟨g1,g2⟩ := drop_nil h hk
  rw [q3x.eq_1,hx]
  simp only [Option.bind_eq_bind,Option.bind_some]
  rw [if_neg (by simp; omega)]
  simp
 | e :: r,k,acc,h,hk,ha => by
  obtain ⟨g1,g2,g3,g4⟩ := drop_cons h
  rw [q3x.eq_1,hx]
  simp only [Option.bind_eq_bind,Option.bind_some]
  rw [if_pos (by simp; omega),g1]
  simp only [Option.bind_some]
  rw [if_pos (ny (by omega) (by omega)),j6 (by omega),qga os i x hx hl out o o2 o3 o4 o5 o6 r (k + 1) _ g4 (by omega) (by simp; omega)]
  simp [q7h]
theorem qhy (os : Sl T.Op) (i : Int) (x : T.Op) (hx : ql os.l i = some x) (hl : x.sels.l.length ≤ 1000) (out : List T.Op) (o : Int) (o2 o3 : Bytes) (o4 : Int) (o5 : Bool) (o6 : Sl T.qb) : ∀ (r : List T.Sel) (k : Nat) (acc : List T.Sel),x.sels.l.drop k = r → k ≤ x.sels.l.length → acc.length ≤ k →
  q3h (os,i,(k : Int),out,o,o2,o3,o4,o5,o6,acc) = some (acc ++ r.map q8w)
 | [],k,acc,h,hk,ha => by
  obtain ⟨g1,g2⟩ := drop_nil h hk
  rw [q3h.eq_1,hx]
  simp only [Option.bind_eq_bind,Option.bind_some]
  rw [if_neg (by simp; omega)]
  simp
 | e :: r,k,acc,h,hk,ha => by
  obtain ⟨g1,g2,g3,g4⟩ := drop_cons h
  rw [q3h.eq_1,hx]
  simp only [Option.bind_eq_bind,Option.bind_some]
  rw [if_pos (by simp; omega),g1]
  simp only [Option.bind_some]
  rw [if_pos (ny (by omega) (by omega)),j6 (by omega),qhy os i x hx hl out o o2 o3 o4 o5 o6 r (k + 1) _ g4 (by omega) (by simp; omega)]
  simp [q8w]
theorem qd0 (os : Sl T.Op) (hl : os.l.length ≤ 100000) (hf : ∀ o ∈ os.l,Few o) : ∀ (r : List T.Op) (k : Nat) (out : List T.Op),os.l.drop k = r → k ≤ os.l.length → out.length ≤ k →
  ∃ l,uk (os,(k : Int),out) = some (out ++ l) ∧ l.length = r.length ∧ ∀ o ∈ l,Can o ∧ Few o
 | [],k,out,h,hk,ha => by
  obtain ⟨g1,g2⟩ := drop_nil h hk
  rw [uk.eq_1,if_neg (by simp; omega)]
  exact ⟨[],by simp,rfl,by simp⟩
 | x :: r,k,out,h,hk,ha => by
  obtain ⟨g1,g2,g3,g4⟩ := drop_cons h
  obtain ⟨f1,f2,f3,f4,f5⟩ := hf x (List.mem_of_getElem? g2)
  rw [uk.eq_1,if_pos (by simp; omega),g1]
  simp only [Option.bind_eq_bind,Option.bind_some]
  obtain ⟨v,v1,v2,v3⟩ := zuf x.kind 13 (by omega) (by omega)
  rw [v1]
  simp only [Option.bind_some]
  have hw : IntKind.i64.wrap (1 + v) = 1 + v := xy
  rw [hw]
  have fin : ∀ o' : T.Op,Can o' ∧ Few o' → ∃ l,(if zh (out.length + 1) 104 = true then uk (os,IntKind.i64.wrap ((k : Int) + 1),out ++ [o']) else none) = some (out ++ l) ∧ l.length = (x :: r).length ∧ ∀ o ∈ l,Can o ∧ Few o := by
   intro o' hc
   obtain ⟨l,a1,a2,a3⟩ := qd0 os hl hf r (k + 1) (out ++ [o']) g4 (by omega) (by simp; omega)
   refine ⟨o' :: l, ?_,by simp [a2], ?_⟩
   ·rw [if_pos (ny (by omega) (by omega)),j6 (by omega),a1]
    simp
   ·intro o ho
    rcases List.mem_cons.1 ho with rfl | ho
    ·exact hc
    ·exact a3 o ho
  by_cases c1 : 1 + v = 1
  ·rw [if_pos (by simpa using c1)]
   refine fin _ ⟨⟨?_,rfl,rfl⟩,f1,f2,by simp,by simp [xz],by simp⟩
   simp [zi,xq,zb,c1]
  rw [if_neg (by simpa using c1)]
  by_cases c2 : 1 + v = 2 ∨ 1 + v = 7
  ·rw [if_pos (by simpa using c2)]
   refine fin _ ⟨⟨?_,rfl,rfl⟩,by simp,f2,by simp,by simp [xz],by simp⟩
   rcases c2 with c | c <;> simp [zi,xq,zb,c]
  rw [if_neg (by simpa using c2)]
  by_cases c3 : 1 + v = 3 ∨ 1 + v = 11
  ·rw [if_pos (by simpa using c3)]
   refine fin _ ⟨⟨?_,rfl,rfl⟩,by simp,by simp,by simp,by simp [xz],by simp⟩
   rcases c3 with c | c <;> simp [zi,xq,q9l,c]
  rw [if_neg (by simpa using c3)]
  by_cases c4 : 1 + v = 6
  ·rw [if_pos (by simpa using c4)]
   refine fin _ ⟨⟨?_,rfl,rfl⟩,by simp,by simp,by simp,by simp [xz],by simp⟩
   simp [zi,xq,q9l,c4]
  rw [if_neg (by simpa using c4)]
  by_cases c5 : 1 + v = 4
  ·rw [if_pos (by simpa using c5)]
   have h3 := qga os (k : Int) x g1 (by omega) out (1 + v) [] [] 0 false ⟨true,[]⟩ x.edits.l 0 [] rfl (by omega) (by simp)
   rw [Int.natCast_zero] at h3
   rw [h3]
   simp only [Option.bind_some,List.nil_append]
   refine fin _ ⟨⟨?_,rfl,rfl⟩,by simp,by simp,by simpa using f3,by rw [qn9]; exact f4,by simp⟩
   simp [zi,xq,zb,qkh,c5]
  rw [if_neg (by simpa using c5)]
  by_cases c6 : 1 + v = 5
  ·rw [if_pos (by simpa using c6)]
   have h3 := qhy os (k : Int) x g1 (by omega) out (1 + v) [] [] 0 false ⟨true,[]⟩ x.sels.l 0 [] rfl (by omega) (by simp)
   rw [Int.natCast_zero] at h3
   rw [h3]
   simp only [Option.bind_some,List.nil_append]
   refine fin _ ⟨⟨?_,rfl,rfl⟩,by simp,by simp,by simp,by simp [xz],by simpa using f5⟩
   simp [zi,xq,zb,zic,c6]
  rw [if_neg (by simpa using c6)]
  refine fin _ ⟨⟨?_,rfl,rfl⟩,by simp,by simp,by simp,by simp [xz],by simp⟩
  simp [zi,xq,zb]
  omega
theorem zde (os : Sl T.Op) (hl : os.l.length ≤ 100000) (hf : ∀ o ∈ os.l,Few o) : ∃ l,q76 os = some ⟨l.isEmpty,l⟩ ∧ l.length = os.l.length ∧ ∀ o ∈ l,Can o ∧ Few o := by
 obtain ⟨l,a1,a2,a3⟩ := qd0 os hl hf os.l 0 [] rfl (by omega) (by simp)
 rw [Int.natCast_zero] at a1
 refine ⟨l, ?_,a2,a3⟩
 unfold q76
 rw [a1]
 rfl
theorem Few.texts {o : T.Op} (h : Few o) : Texts o := by
 obtain ⟨f1,f2,f3,f4,f5⟩ := h
 exact ⟨by omega,by omega,fun e he => by have := qfw he; omega⟩
theorem qg4 {o : T.Op} (h : Can o) : inI o.n ∧ (∀ e ∈ o.edits.l,inI e.span.frm ∧ inI e.span.to) ∧ (∀ e ∈ o.sels.l,inI e.anchor ∧ inI e.head) ∧ (o.name ≠ [] → o.kind = 1) ∧ (o.text ≠ [] → o.kind = 1 ∨ o.kind = 2 ∨ o.kind = 7) ∧ (o.edits.l ≠ [] → o.kind = 4) ∧ (o.sels.l ≠ [] → o.kind = 5) := by
 obtain ⟨h1,_,_⟩ := h
 unfold zi at h1
 simp only [Bool.and_eq_true,Bool.or_eq_true,decide_eq_true_eq,beq_iff_eq,bne_iff_ne,ne_eq,xq,Bool.not_eq_true'] at h1
 obtain ⟨⟨⟨⟨⟨⟨⟨⟨⟨⟨a1,a2⟩,a3⟩,a4⟩,a5⟩,a6⟩,a7⟩,a8⟩,a9⟩,b1⟩,b2⟩ := h1
 have e0 : o.edits.l ≠ [] → o.kind = 4 := by
  intro hne
  rcases b1 with h | h
  ·exact h
  ·exact absurd (List.length_eq_zero_iff.1 (by omega)) hne
 have s0 : o.sels.l ≠ [] → o.kind = 5 := by
  intro hne
  rcases b2 with h | h
  ·exact h
  ·exact absurd (List.length_eq_zero_iff.1 (by omega)) hne
 refine ⟨q7w a3,fun e he => ?_,fun e he => ?_,fun hne => ?_,fun hne => ?_,e0,s0⟩
 ·have hk := e0 (List.ne_nil_of_mem he)
  rcases a4 with h | h
  ·exact absurd hk h
  ·unfold q1o at h
   have := List.all_eq_true.1 h e he
   simp only [Bool.and_eq_true] at this
   exact ⟨q7w this.1,q7w this.2⟩
 ·have hk := s0 (List.ne_nil_of_mem he)
  rcases a5 with h | h
  ·exact absurd hk h
  ·unfold q15 at h
   have := List.all_eq_true.1 h e he
   simp only [Bool.and_eq_true] at this
   exact ⟨q7w this.1,q7w this.2⟩
 ·rcases a6 with h | h
  ·exact h
  ·exact absurd h hne
 ·rcases a7 with ((h | h) | h) | h
  ·exact .inl h
  ·exact .inr (.inl h)
  ·exact .inr (.inr h)
  ·exact absurd h hne
theorem qhr {o : T.Op} (h : Can o) (hf : Few o) : q5k o := by
 obtain ⟨p1,p2,p3,_⟩ := qg4 h
 obtain ⟨f1,f2,f3,f4,f5⟩ := hf
 refine ⟨p1,by omega,by omega,by omega,fun e he => ⟨(p2 e he).1,(p2 e he).2, ?_⟩,by omega,p3⟩
 have := qfw he
 omega
theorem qt1 {o : T.Op} (h : Can o) (hf : Few o) : (qi o).length ≤ 3000 := by
 obtain ⟨g1,g2,g3,g4,g5,g6,g7⟩ := qhr h hf
 obtain ⟨f1,f2,f3,f4,f5⟩ := hf
 have lt := q5m g3
 have ln := q5m g2
 have lm := uo g1
 have l4 : ∀ l : List T.qb,(∀ e ∈ l,inI e.span.frm ∧ inI e.span.to ∧ e.text.length ≤ 100000) → (edB l).length ≤ l.length * 64 + xz l := by
  intro l
  induction l with
  | nil => intro _; simp [edB,xz]
  | cons e l ih =>
   intro hh
   obtain ⟨a1,a2,a3⟩ := hh e (by simp)
   have b1 := uo a1
   have b2 := uo a2
   have b3 := q5m a3
   have := ih fun e he => hh e (by simp [he])
   rw [q3o,List.length_cons,Nat.succ_mul,q5s]
   simp only [List.length_append]
   omega
 have l5 : ∀ l : List T.Sel,(∀ e ∈ l,inI e.anchor ∧ inI e.head) → (seB l).length ≤ l.length * 42 := by
  intro l
  induction l with
  | nil => intro _; simp [seB]
  | cons e l ih =>
   intro hh
   obtain ⟨a1,a2⟩ := hh e (by simp)
   have b1 := uo a1
   have b2 := uo a2
   have := ih fun e he => hh e (by simp [he])
   rw [q2l,List.length_cons,Nat.succ_mul]
   simp only [List.length_append]
   omega
 have e4 := l4 _ g5
 have e5 := l5 _ g7
 unfold qi bu
 refine um ?_ (um ?_ (um ?_ (um ?_ (um ?_ (um ?_ (um ?_ (um ?_ (um ?_ (um ?_ (um ?_ (um ?_ (um ?_ ?_))))))))))))
 rotate_left 5
 ·rw [List.length_append]
  have : (if o.extend = true then ([32,49] : Bytes) else [32,48]).length ≤ 2 := um (by simp) (by simp)
  simp only [List.length_append,List.length_cons,List.length_nil]
  omega
 all_goals (try simp only [List.length_append,List.length_cons,List.length_nil])
 all_goals omega
theorem zwa {l : List T.Op} (h : ∀ o ∈ l,Can o ∧ Few o) : (opB l).length ≤ l.length * 3001 := by
 induction l with
 | nil => simp [opB]
 | cons o l ih =>
  have h1 := qt1 (h o (by simp)).1 (h o (by simp)).2
  have h2 := ih fun x hx => h x (by simp [hx])
  rw [q58,List.length_cons,Nat.succ_mul]
  simp only [List.length_append,List.length_cons,List.length_nil]
  omega
theorem z7u {l : List T.Op} {o : T.Op} (h : o ∈ l) : (qi o).length ≤ (opB l).length := by
 induction l with
 | nil => cases h
 | cons x l ih =>
  rw [q58]
  simp only [List.length_append,List.length_cons,List.length_nil]
  rcases List.mem_cons.1 h with rfl | h
  ·omega
  ·have := ih h
   omega
theorem qck : ∀ l : List T.qb,l.length * 4 ≤ (edB l).length ∧ ∀ e ∈ l,e.text.length ≤ (edB l).length
 | [] => by simp
 | e :: l => by
  obtain ⟨h1,h2⟩ := qck l
  rw [q3o,mg,mg,q28]
  refine ⟨?_,fun x hx => ?_⟩
  ·simp only [List.length_append,List.length_cons]
   omega
  ·simp only [List.length_append,List.length_cons]
   rcases List.mem_cons.1 hx with rfl | hx
   ·omega
   ·have := h2 x hx
    omega
theorem qg7 : ∀ l : List T.Sel,l.length * 2 ≤ (seB l).length
 | [] => by simp
 | e :: l => by
  have := qg7 l
  rw [q2l,mg,mg]
  simp only [List.length_append,List.length_cons]
  omega
theorem qf3 (s : Bytes) : s.length ≤ (jo s).length := by
 rw [q28]
 simp only [List.length_append,List.length_cons]
 omega
theorem x0u {o : T.Op} (h : Can o) (hl : (qi o).length ≤ 150) : q5k o := by
 obtain ⟨p1,p2,p3,p4,p5,p6,p7⟩ := qg4 h
 have hn : o.name.length ≤ 150 := by
  by_cases hne : o.name = []
  ·simp [hne]
  ·have hk := p4 hne
   have := qf3 o.name
   unfold qi at hl
   rw [if_pos hk] at hl
   simp only [List.length_append] at hl
   omega
 have ht : o.text.length ≤ 150 := by
  by_cases hne : o.text = []
  ·simp [hne]
  ·have := qf3 o.text
   unfold qi at hl
   rcases p5 hne with hk | hk | hk <;> simp [hk] at hl <;> omega
 have he : (edB o.edits.l).length ≤ 150 := by
  by_cases hne : o.edits.l = []
  ·simp [hne,edB]
  ·have hk := p6 hne
   unfold qi at hl
   simp [hk] at hl
   omega
 have hs : (seB o.sels.l).length ≤ 150 := by
  by_cases hne : o.sels.l = []
  ·simp [hne,seB]
  ·have hk := p7 hne
   unfold qi at hl
   simp [hk] at hl
   omega
 obtain ⟨q1,q2⟩ := qck o.edits.l
 have q3 := qg7 o.sels.l
 refine ⟨p1,by omega,by omega,by omega,fun e h => ⟨(p2 e h).1,(p2 e h).2,by have := q2 e h; omega⟩,by omega,p3⟩
theorem z5a {l : List T.Op} (h : ∀ o ∈ l,Can o) : q17 l = true := by
 unfold q17
 rw [List.all_eq_true]
 exact fun o ho => (h o ho).1
end Go.Proofs.YtaglodpkpggdiaaGreatDoor
