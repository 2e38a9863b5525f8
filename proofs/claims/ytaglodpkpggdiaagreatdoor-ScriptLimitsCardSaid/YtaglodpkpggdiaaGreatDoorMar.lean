/-
  Scripts: a line as it is told, by the program and by the document.
-/
import Derived.Test.YtaglodpkpggdiaaGreatDoorMap
import Derived.Test.YtaglodpkpggdiaaGreatDoorMaq
set_option linter.unusedSimpArgs false
set_option linter.unusedVariables false
namespace Go.Proofs.YtaglodpkpggdiaaGreatDoor
open Go Go.Gm
def q7a (o : T.Op) : Prop :=
 inI o.n ∧ o.name.length ≤ 100000 ∧ o.text.length ≤ 100000 ∧ o.edits.l.length ≤ 100 ∧ (∀ e ∈ o.edits.l,inI e.span.frm ∧ inI e.span.to ∧ e.text.length ≤ 100000) ∧ o.sels.l.length ≤ 100 ∧ (∀ x ∈ o.sels.l,inI x.anchor ∧ inI x.head)
def edB (l : List T.qd) : Bytes := l.flatMap fun e => (xm e.span.frm ++ xm e.span.to) ++ kz e.text
def q3s (l : List T.qd) : Bool := l.all fun e => xc e.span.frm && xc e.span.to
def seB (l : List T.Sel) : Bytes := l.flatMap fun x => xm x.anchor ++ xm x.head
def q4f (l : List T.Sel) : Bool := l.all fun x => xc x.anchor && xc x.head
theorem q72 (e : T.qd) (l : List T.qd) : edB (e :: l) = ((xm e.span.frm ++ xm e.span.to) ++ kz e.text) ++ edB l := by simp [edB]
theorem q54 (x : T.Sel) (l : List T.Sel) : seB (x :: l) = (xm x.anchor ++ xm x.head) ++ seB l := by simp [seB]
theorem qd7 (e : T.qd) (l : List T.qd) : q3s (e :: l) = ((xc e.span.frm && xc e.span.to) && q3s l) := by simp [q3s]
theorem qfa (x : T.Sel) (l : List T.Sel) : q4f (x :: l) = ((xc x.anchor && xc x.head) && q4f l) := by simp [q4f]
theorem pEd (b r : T.Op) (es : Sl T.qd) (hl : es.l.length ≤ 100) (he : ∀ e ∈ es.l,inI e.span.frm ∧ inI e.span.to ∧ e.text.length ≤ 100000) : ∀ (l : List T.qd) (k : Nat) (out : Bytes) (ok : Bool),es.l.drop k = l → k ≤ es.l.length → out.length ≤ 100 + k * 200000 →
  q1n (out,ok,es,(es.l.length : Int),(k : Int),b,r) = some (out ++ edB l,ok && q3s l)
 | [],k,out,ok,h,hk,ho => by
  obtain ⟨h1,h2⟩ := drop_nil h hk
  rw [q1n.eq_1,if_neg (by simp; omega)]
  simp [edB,q3s]
 | e :: l,k,out,ok,h,hk,ho => by
  obtain ⟨g1,g2,g3,g4⟩ := drop_cons h
  obtain ⟨e1,e2,e3⟩ := he e (List.mem_of_getElem? g2)
  have l1 := q1p e1
  have l2 := q1p e2
  have l3 := qa6 e3
  rw [q1n.eq_1,if_pos (by simp; omega),g1]
  simp only [Option.bind_eq_bind,Option.bind_some]
  cases ok with
  | true =>
   rw [if_pos rfl,qcd,gy e1,gy e2]
   simp only [Option.bind_some]
   rw [if_pos (by omega),str_eq e3]
   simp only [Option.bind_some]
   rw [if_pos (by simp only [List.length_append]; omega),if_pos (by simp only [List.length_append]; omega),uf (by omega)]
   rw [pEd b r es hl he l (k + 1) _ _ g4 (by omega) (by simp only [List.length_append]; omega),q72,qd7]
   simp
  | false =>
   rw [if_neg (by simp),gy e1,gy e2]
   simp only [Option.bind_some]
   rw [if_pos (by omega),str_eq e3]
   simp only [Option.bind_some]
   rw [if_pos (by simp only [List.length_append]; omega),if_pos (by simp only [List.length_append]; omega),uf (by omega)]
   rw [pEd b r es hl he l (k + 1) _ _ g4 (by omega) (by simp only [List.length_append]; omega),q72]
   simp
theorem pSe (b r : T.Op) (ss : Sl T.Sel) (hl : ss.l.length ≤ 100) (he : ∀ e ∈ ss.l,inI e.anchor ∧ inI e.head) : ∀ (l : List T.Sel) (k : Nat) (out : Bytes) (ok : Bool),ss.l.drop k = l → k ≤ ss.l.length → out.length ≤ 100 + k * 200000 →
  q1w (out,ok,ss,(ss.l.length : Int),(k : Int),b,r) = some (out ++ seB l,ok && q4f l)
 | [],k,out,ok,h,hk,ho => by
  obtain ⟨h1,h2⟩ := drop_nil h hk
  rw [q1w.eq_1,if_neg (by simp; omega)]
  simp [seB,q4f]
 | e :: l,k,out,ok,h,hk,ho => by
  obtain ⟨g1,g2,g3,g4⟩ := drop_cons h
  obtain ⟨e1,e2⟩ := he e (List.mem_of_getElem? g2)
  have l1 := q1p e1
  have l2 := q1p e2
  rw [q1w.eq_1,if_pos (by simp; omega),g1]
  simp only [Option.bind_eq_bind,Option.bind_some]
  cases ok with
  | true =>
   rw [if_pos rfl,qcd,gy e1,gy e2]
   simp only [Option.bind_some]
   rw [if_pos (by omega),if_pos (by simp only [List.length_append]; omega),uf (by omega)]
   rw [pSe b r ss hl he l (k + 1) _ _ g4 (by omega) (by simp only [List.length_append]; omega),q54,qfa]
   simp
  | false =>
   rw [if_neg (by simp),gy e1,gy e2]
   simp only [Option.bind_some]
   rw [if_pos (by omega),if_pos (by simp only [List.length_append]; omega),uf (by omega)]
   rw [pSe b r ss hl he l (k + 1) _ _ g4 (by omega) (by simp only [List.length_append]; omega),q54]
   simp
def q0j {α : Type} (l : List α) : Bool := decide ((l.length : Int) = 0)
def nk (k : Int) : Bytes := if k = 8 then [110,101,120,116] else if k = 9 then [112,114,101,118] else if k = 10 then [108,101,97,118,101] else if k = 12 then [117,110,100,111] else if k = 13 then [114,101,100,111] else []
def qm (o : T.Op) : Bytes :=
 if o.kind = 1 then [115,101,116] ++ kz o.name ++ kz o.text
 else if o.kind = 2 then [116,121,112,101] ++ kz o.text
 else if o.kind = 7 then [105,110,115,101,114,116] ++ kz o.text
 else if o.kind = 3 then [101,114,97,115,101] ++ xm o.n
 else if o.kind = 11 then [99,104,111,111,115,101] ++ xm o.n
 else if o.kind = 6 then [109,111,118,101] ++ xm o.n ++ (if o.extend then [32,49] else [32,48])
 else if o.kind = 4 then [101,100,105,116] ++ edB o.edits.l
 else if o.kind = 5 then [115,101,108,101,99,116] ++ seB o.sels.l
 else nk o.kind
def jh (o : T.Op) : Bool :=
 decide (1 ≤ o.kind) && decide (o.kind ≤ 13) && xc o.n && (o.kind != 4 || q3s o.edits.l) && (o.kind != 5 || q4f o.sels.l) &&
 (o.kind == 1 || o.name == []) && (o.kind == 1 || o.kind == 2 || o.kind == 7 || o.text == []) && (o.kind == 3 || o.kind == 11 || o.kind == 6 || o.n == 0) && (o.kind == 6 || !o.extend) &&
 (o.kind == 4 || q0j o.edits.l) && (o.kind == 5 || q0j o.sels.l)
theorem bare_eq (o : T.Op) : vw o = some (o.name == [] && (o.text == [] && (o.n == 0 && (!o.extend && (q0j o.edits.l && q0j o.sels.l))))) := by
 unfold vw q0j
 split
 ·rename_i h
  simp only [Bool.and_eq_true,beq_iff_eq,Bool.not_eq_true'] at h
  obtain ⟨h1,h2,h3,h4,h5⟩ := h
  simp [h1,h2,h3,h4,h5]
  rw [Bool.eq_iff_iff]
  simp
 ·rename_i h
  congr 1
  rw [Bool.eq_iff_iff]
  simp only [Bool.and_eq_true,beq_iff_eq,Bool.not_eq_true',decide_eq_true_eq] at h ⊢
  constructor
  ·intro h; cases h
  ·rintro ⟨h1,h2,h3,h4,h5,h6⟩
   exact absurd ⟨h1,h2,h3,h4,h5⟩ h
def nuB (l : List Int) : Bytes := l.flatMap xm
theorem q5m (x : Int) (l : List Int) : nuB (x :: l) = xm x ++ nuB l := by simp [nuB]
end Go.Proofs.YtaglodpkpggdiaaGreatDoor
