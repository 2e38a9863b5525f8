/-
  Scripts: a line as it is told, by the program and by the document.
-/
import Derived.Test.YtaglodpkpggdiaaGreatDoorLap
import Derived.Test.YtaglodpkpggdiaaGreatDoorLaq
set_option linter.unusedSimpArgs false
set_option linter.unusedVariables false
namespace Go.Proofs.YtaglodpkpggdiaaGreatDoor
open Go Go.Gm
def q74 (o : T.Op) : Prop :=
 inI o.n ∧ o.name.length ≤ 100000 ∧ o.text.length ≤ 100000 ∧ o.edits.l.length ≤ 100 ∧ (∀ e ∈ o.edits.l,inI e.span.frm ∧ inI e.span.to ∧ e.text.length ≤ 100000) ∧ o.sels.l.length ≤ 100 ∧ (∀ x ∈ o.sels.l,inI x.anchor ∧ inI x.head)
def edB (l : List T.qb) : Bytes := l.flatMap fun e => (xw e.span.frm ++ xw e.span.to) ++ vw e.text
def q23 (l : List T.qb) : Bool := l.all fun e => zo e.span.frm && zo e.span.to
def seB (l : List T.Sel) : Bytes := l.flatMap fun x => xw x.anchor ++ xw x.head
def q1y (l : List T.Sel) : Bool := l.all fun x => zo x.anchor && zo x.head
theorem q5s (e : T.qb) (l : List T.qb) : edB (e :: l) = ((xw e.span.frm ++ xw e.span.to) ++ vw e.text) ++ edB l := by simp [edB]
theorem q4d (x : T.Sel) (l : List T.Sel) : seB (x :: l) = (xw x.anchor ++ xw x.head) ++ seB l := by simp [seB]
theorem qbk (e : T.qb) (l : List T.qb) : q23 (e :: l) = ((zo e.span.frm && zo e.span.to) && q23 l) := by simp [q23]
theorem qb0 (x : T.Sel) (l : List T.Sel) : q1y (x :: l) = ((zo x.anchor && zo x.head) && q1y l) := by simp [q1y]
theorem pEd (b r : T.Op) (es : Sl T.qb) (hl : es.l.length ≤ 100) (he : ∀ e ∈ es.l,inI e.span.frm ∧ inI e.span.to ∧ e.text.length ≤ 100000) : ∀ (l : List T.qb) (k : Nat) (out : Bytes) (ok : Bool),es.l.drop k = l → k ≤ es.l.length → out.length ≤ 100 + k * 200000 →
  q21 (out,ok,es,(es.l.length : Int),(k : Int),b,r) = some (out ++ edB l,ok && q23 l)
 | [],k,out,ok,h,hk,ho => by
  obtain ⟨h1,h2⟩ := drop_nil h hk
  rw [q21.eq_1,if_neg (by simp; omega)]
  simp [edB,q23]
 | e :: l,k,out,ok,h,hk,ho => by
  obtain ⟨g1,g2,g3,g4⟩ := drop_cons h
  obtain ⟨e1,e2,e3⟩ := he e (List.mem_of_getElem? g2)
  have l1 := gp e1
  have l2 := gp e2
  have l3 := q60 e3
  rw [q21.eq_1,if_pos (by simp; omega),g1]
  simp only [Option.bind_eq_bind,Option.bind_some]
  cases ok with
  | true =>
   rw [if_pos rfl,qe5,ny e1,ny e2]
   simp only [Option.bind_some]
   rw [if_pos (by omega),str_eq e3]
   simp only [Option.bind_some]
   rw [if_pos (by simp only [List.length_append]; omega),if_pos (by simp only [List.length_append]; omega),jy (by omega)]
   rw [pEd b r es hl he l (k + 1) _ _ g4 (by omega) (by simp only [List.length_append]; omega),q5s,qbk]
   simp
  | false =>
   rw [if_neg (by simp),ny e1,ny e2]
   simp only [Option.bind_some]
   rw [if_pos (by omega),str_eq e3]
   simp only [Option.bind_some]
   rw [if_pos (by simp only [List.length_append]; omega),if_pos (by simp only [List.length_append]; omega),jy (by omega)]
   rw [pEd b r es hl he l (k + 1) _ _ g4 (by omega) (by simp only [List.length_append]; omega),q5s]
   simp
theorem pSe (b r : T.Op) (ss : Sl T.Sel) (hl : ss.l.length ≤ 100) (he : ∀ e ∈ ss.l,inI e.anchor ∧ inI e.head) : ∀ (l : List T.Sel) (k : Nat) (out : Bytes) (ok : Bool),ss.l.drop k = l → k ≤ ss.l.length → out.length ≤ 100 + k * 200000 →
  q2l (out,ok,ss,(ss.l.length : Int),(k : Int),b,r) = some (out ++ seB l,ok && q1y l)
 | [],k,out,ok,h,hk,ho => by
  obtain ⟨h1,h2⟩ := drop_nil h hk
  rw [q2l.eq_1,if_neg (by simp; omega)]
  simp [seB,q1y]
 | e :: l,k,out,ok,h,hk,ho => by
  obtain ⟨g1,g2,g3,g4⟩ := drop_cons h
  obtain ⟨e1,e2⟩ := he e (List.mem_of_getElem? g2)
  have l1 := gp e1
  have l2 := gp e2
  rw [q2l.eq_1,if_pos (by simp; omega),g1]
  simp only [Option.bind_eq_bind,Option.bind_some]
  cases ok with
  | true =>
   rw [if_pos rfl,qe5,ny e1,ny e2]
   simp only [Option.bind_some]
   rw [if_pos (by omega),if_pos (by simp only [List.length_append]; omega),jy (by omega)]
   rw [pSe b r ss hl he l (k + 1) _ _ g4 (by omega) (by simp only [List.length_append]; omega),q4d,qb0]
   simp
  | false =>
   rw [if_neg (by simp),ny e1,ny e2]
   simp only [Option.bind_some]
   rw [if_pos (by omega),if_pos (by simp only [List.length_append]; omega),jy (by omega)]
   rw [pSe b r ss hl he l (k + 1) _ _ g4 (by omega) (by simp only [List.length_append]; omega),q4d]
   simp
def ve {α : Type} (l : List α) : Bool := decide ((l.length : Int) = 0)
def bf (k : Int) : Bytes := if k = 8 then [110,101,120,116] else if k = 9 then [112,114,101,118] else if k = 10 then [108,101,97,118,101] else if k = 12 then [117,110,100,111] else if k = 13 then [114,101,100,111] else []
def qo (o : T.Op) : Bytes :=
 if o.kind = 1 then [115,101,116] ++ vw o.name ++ vw o.text
 else if o.kind = 2 then [116,121,112,101] ++ vw o.text
 else if o.kind = 7 then [105,110,115,101,114,116] ++ vw o.text
 else if o.kind = 3 then [101,114,97,115,101] ++ xw o.n
 else if o.kind = 11 then [99,104,111,111,115,101] ++ xw o.n
 else if o.kind = 6 then [109,111,118,101] ++ xw o.n ++ (if o.extend then [32,49] else [32,48])
 else if o.kind = 4 then [101,100,105,116] ++ edB o.edits.l
 else if o.kind = 5 then [115,101,108,101,99,116] ++ seB o.sels.l
 else bf o.kind
def xe (o : T.Op) : Bool :=
 decide (1 ≤ o.kind) && decide (o.kind ≤ 13) && zo o.n && (o.kind != 4 || q23 o.edits.l) && (o.kind != 5 || q1y o.sels.l) &&
 (o.kind == 1 || o.name == []) && (o.kind == 1 || o.kind == 2 || o.kind == 7 || o.text == []) && (o.kind == 3 || o.kind == 11 || o.kind == 6 || o.n == 0) && (o.kind == 6 || !o.extend) &&
 (o.kind == 4 || ve o.edits.l) && (o.kind == 5 || ve o.sels.l)
theorem bare_eq (o : T.Op) : yh o = some (o.name == [] && (o.text == [] && (o.n == 0 && (!o.extend && (ve o.edits.l && ve o.sels.l))))) := by
 unfold yh ve
 split
 ·rename_i h
  simp only [Bool.and_eq_true,beq_iff_eq,Bool.not_eq_true'] at h
  obtain ⟨h1,h2,h3,h4,h5⟩ := h
  simp [h1,h2,h3,h4,h5]
  rw [Bool.eq_iff_iff]
  simp
 ·rename_i h
  congr 1
  rw [Bool.eq_iff_iff]
  simp only [Bool.and_eq_true,beq_iff_eq,Bool.not_eq_true',decide_eq_true_eq] at h ⊢
  constructor
  ·intro h; cases h
  ·rintro ⟨h1,h2,h3,h4,h5,h6⟩
   exact absurd ⟨h1,h2,h3,h4,h5⟩ h
def nuB (l : List Int) : Bytes := l.flatMap xw
theorem q55 (x : Int) (l : List Int) : nuB (x :: l) = xw x ++ nuB l := by simp [nuB]
end Go.Proofs.YtaglodpkpggdiaaGreatDoor
