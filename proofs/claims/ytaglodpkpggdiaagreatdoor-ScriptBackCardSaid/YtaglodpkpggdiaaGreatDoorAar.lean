/-
  Scripts: a line as it is told, by the program and by the document.
-/
import Derived.Test.YtaglodpkpggdiaaGreatDoorAap
import Derived.Test.YtaglodpkpggdiaaGreatDoorAaq
set_option linter.unusedSimpArgs false
set_option linter.unusedVariables false
namespace Go.Proofs.YtaglodpkpggdiaaGreatDoor
open Go Go.Gm
def q5k (o : T.Op) : Prop :=
 inI o.n ∧ o.name.length ≤ 100000 ∧ o.text.length ≤ 100000 ∧ o.edits.l.length ≤ 100 ∧ (∀ e ∈ o.edits.l,inI e.span.frm ∧ inI e.span.to ∧ e.text.length ≤ 100000) ∧ o.sels.l.length ≤ 100 ∧ (∀ x ∈ o.sels.l,inI x.anchor ∧ inI x.head)
def edB (l : List T.qb) : Bytes := l.flatMap fun e => (xg e.span.frm ++ xg e.span.to) ++ jo e.text
def q1o (l : List T.qb) : Bool := l.all fun e => zb e.span.frm && zb e.span.to
def seB (l : List T.Sel) : Bytes := l.flatMap fun x => xg x.anchor ++ xg x.head
def q15 (l : List T.Sel) : Bool := l.all fun x => zb x.anchor && zb x.head
theorem q3o (e : T.qb) (l : List T.qb) : edB (e :: l) = ((xg e.span.frm ++ xg e.span.to) ++ jo e.text) ++ edB l := by simp [edB]
theorem q2l (x : T.Sel) (l : List T.Sel) : seB (x :: l) = (xg x.anchor ++ xg x.head) ++ seB l := by simp [seB]
theorem q8n (e : T.qb) (l : List T.qb) : q1o (e :: l) = ((zb e.span.frm && zb e.span.to) && q1o l) := by simp [q1o]
theorem q8x (x : T.Sel) (l : List T.Sel) : q15 (x :: l) = ((zb x.anchor && zb x.head) && q15 l) := by simp [q15]
theorem pEd (b r : T.Op) (es : Sl T.qb) (hl : es.l.length ≤ 100) (he : ∀ e ∈ es.l,inI e.span.frm ∧ inI e.span.to ∧ e.text.length ≤ 100000) : ∀ (l : List T.qb) (k : Nat) (out : Bytes) (ok : Bool),es.l.drop k = l → k ≤ es.l.length → out.length ≤ 100 + k * 200000 →
  q2o (out,ok,es,(es.l.length : Int),(k : Int),b,r) = some (out ++ edB l,ok && q1o l)
 | [],k,out,ok,h,hk,ho => by
  obtain ⟨h1,h2⟩ := drop_nil h hk
  rw [q2o.eq_1,if_neg (by simp; omega)]
  simp [edB,q1o]
 | e :: l,k,out,ok,h,hk,ho => by
  obtain ⟨g1,g2,g3,g4⟩ := drop_cons h
  obtain ⟨e1,e2,e3⟩ := he e (List.mem_of_getElem? g2)
  have l1 := uo e1
  have l2 := uo e2
  have l3 := q5m e3
  rw [q2o.eq_1,if_pos (by simp; omega),g1]
  simp only [Option.bind_eq_bind,Option.bind_some]
  cases ok with
  | true =>
   rw [if_pos rfl,qdl,ma e1,ma e2]
   simp only [Option.bind_some]
   rw [if_pos (by omega),str_eq e3]
   simp only [Option.bind_some]
   rw [if_pos (by simp only [List.length_append]; omega),if_pos (by simp only [List.length_append]; omega),j6 (by omega)]
   rw [pEd b r es hl he l (k + 1) _ _ g4 (by omega) (by simp only [List.length_append]; omega),q3o,q8n]
   simp
  | false =>
   rw [if_neg (by simp),ma e1,ma e2]
   simp only [Option.bind_some]
   rw [if_pos (by omega),str_eq e3]
   simp only [Option.bind_some]
   rw [if_pos (by simp only [List.length_append]; omega),if_pos (by simp only [List.length_append]; omega),j6 (by omega)]
   rw [pEd b r es hl he l (k + 1) _ _ g4 (by omega) (by simp only [List.length_append]; omega),q3o]
   simp
theorem pSe (b r : T.Op) (ss : Sl T.Sel) (hl : ss.l.length ≤ 100) (he : ∀ e ∈ ss.l,inI e.anchor ∧ inI e.head) : ∀ (l : List T.Sel) (k : Nat) (out : Bytes) (ok : Bool),ss.l.drop k = l → k ≤ ss.l.length → out.length ≤ 100 + k * 200000 →
  q2p (out,ok,ss,(ss.l.length : Int),(k : Int),b,r) = some (out ++ seB l,ok && q15 l)
 | [],k,out,ok,h,hk,ho => by
  obtain ⟨h1,h2⟩ := drop_nil h hk
  rw [q2p.eq_1,if_neg (by simp; omega)]
  simp [seB,q15]
 | e :: l,k,out,ok,h,hk,ho => by
  obtain ⟨g1,g2,g3,g4⟩ := drop_cons h
  obtain ⟨e1,e2⟩ := he e (List.mem_of_getElem? g2)
  have l1 := uo e1
  have l2 := uo e2
  rw [q2p.eq_1,if_pos (by simp; omega),g1]
  simp only [Option.bind_eq_bind,Option.bind_some]
  cases ok with
  | true =>
   rw [if_pos rfl,qdl,ma e1,ma e2]
   simp only [Option.bind_some]
   rw [if_pos (by omega),if_pos (by simp only [List.length_append]; omega),j6 (by omega)]
   rw [pSe b r ss hl he l (k + 1) _ _ g4 (by omega) (by simp only [List.length_append]; omega),q2l,q8x]
   simp
  | false =>
   rw [if_neg (by simp),ma e1,ma e2]
   simp only [Option.bind_some]
   rw [if_pos (by omega),if_pos (by simp only [List.length_append]; omega),j6 (by omega)]
   rw [pSe b r ss hl he l (k + 1) _ _ g4 (by omega) (by simp only [List.length_append]; omega),q2l]
   simp
def xq {α : Type} (l : List α) : Bool := decide ((l.length : Int) = 0)
def bu (k : Int) : Bytes := if k = 8 then [110,101,120,116] else if k = 9 then [112,114,101,118] else if k = 10 then [108,101,97,118,101] else if k = 12 then [117,110,100,111] else if k = 13 then [114,101,100,111] else []
def qi (o : T.Op) : Bytes :=
 if o.kind = 1 then [115,101,116] ++ jo o.name ++ jo o.text
 else if o.kind = 2 then [116,121,112,101] ++ jo o.text
 else if o.kind = 7 then [105,110,115,101,114,116] ++ jo o.text
 else if o.kind = 3 then [101,114,97,115,101] ++ xg o.n
 else if o.kind = 11 then [99,104,111,111,115,101] ++ xg o.n
 else if o.kind = 6 then [109,111,118,101] ++ xg o.n ++ (if o.extend then [32,49] else [32,48])
 else if o.kind = 4 then [101,100,105,116] ++ edB o.edits.l
 else if o.kind = 5 then [115,101,108,101,99,116] ++ seB o.sels.l
 else bu o.kind
def zi (o : T.Op) : Bool :=
 decide (1 ≤ o.kind) && decide (o.kind ≤ 13) && zb o.n && (o.kind != 4 || q1o o.edits.l) && (o.kind != 5 || q15 o.sels.l) &&
 (o.kind == 1 || o.name == []) && (o.kind == 1 || o.kind == 2 || o.kind == 7 || o.text == []) && (o.kind == 3 || o.kind == 11 || o.kind == 6 || o.n == 0) && (o.kind == 6 || !o.extend) &&
 (o.kind == 4 || xq o.edits.l) && (o.kind == 5 || xq o.sels.l)
theorem bare_eq (o : T.Op) : yf o = some (o.name == [] && (o.text == [] && (o.n == 0 && (!o.extend && (xq o.edits.l && xq o.sels.l))))) := by
 unfold yf xq
 split
 ·rename_i h
  simp only [Bool.and_eq_true,beq_iff_eq,Bool.not_eq_true'] at h
  obtain ⟨h1,h2,h3,h4,h5⟩ := h
  simp [h1,h2,h3,h4,h5]
  rw [Bool.eq_iff_iff]
  simp
 ·rename_i h
  congr 1
  rw [Bool.eq_iff_iff]
  simp only [Bool.and_eq_true,beq_iff_eq,Bool.not_eq_true',decide_eq_true_eq] at h ⊢
  constructor
  ·intro h; cases h
  ·rintro ⟨h1,h2,h3,h4,h5,h6⟩
   exact absurd ⟨h1,h2,h3,h4,h5⟩ h
def nuB (l : List Int) : Bytes := l.flatMap xg
theorem q36 (x : Int) (l : List Int) : nuB (x :: l) = xg x ++ nuB l := by simp [nuB]
end Go.Proofs.YtaglodpkpggdiaaGreatDoor
