/-
  Scripts: a line as it is told, by the program and by the document.
-/
import Derived.Test.YtlapkkdodjhgpaaGreatDoorTan
import Derived.Test.YtlapkkdodjhgpaaGreatDoorTao
set_option linter.unusedSimpArgs false
set_option linter.unusedVariables false
namespace Go.Proofs.YtlapkkdodjhgpaaGreatDoor
open Go Go.Gm
def q05 (o : T.Op) : Prop :=
 inI o.n ∧ o.name.length ≤ 100000 ∧ o.text.length ≤ 100000 ∧ o.edits.l.length ≤ 100 ∧ (∀ e ∈ o.edits.l,inI e.span.frm ∧ inI e.span.to ∧ e.text.length ≤ 100000) ∧ o.sels.l.length ≤ 100 ∧ (∀ x ∈ o.sels.l,inI x.anchor ∧ inI x.head)
def edB (l : List T.qj) : Bytes := l.flatMap fun e => (zg e.span.frm ++ zg e.span.to) ++ wh e.text
def q0d (l : List T.qj) : Bool := l.all fun e => zq e.span.frm && zq e.span.to
def seB (l : List T.Sel) : Bytes := l.flatMap fun x => zg x.anchor ++ zg x.head
def pz (l : List T.Sel) : Bool := l.all fun x => zq x.anchor && zq x.head
theorem q4f (e : T.qj) (l : List T.qj) : edB (e :: l) = ((zg e.span.frm ++ zg e.span.to) ++ wh e.text) ++ edB l := by simp [edB]
theorem q5j (x : T.Sel) (l : List T.Sel) : seB (x :: l) = (zg x.anchor ++ zg x.head) ++ seB l := by simp [seB]
theorem qbg (e : T.qj) (l : List T.qj) : q0d (e :: l) = ((zq e.span.frm && zq e.span.to) && q0d l) := by simp [q0d]
theorem qch (x : T.Sel) (l : List T.Sel) : pz (x :: l) = ((zq x.anchor && zq x.head) && pz l) := by simp [pz]
theorem pEd (b r : T.Op) (es : Sl T.qj) (hl : es.l.length ≤ 100) (he : ∀ e ∈ es.l,inI e.span.frm ∧ inI e.span.to ∧ e.text.length ≤ 100000) : ∀ (l : List T.qj) (k : Nat) (out : Bytes) (ok : Bool),es.l.drop k = l → k ≤ es.l.length → out.length ≤ 100 + k * 200000 →
  q1e (out,ok,es,(es.l.length : Int),(k : Int),b,r) = some (out ++ edB l,ok && q0d l)
 | [],k,out,ok,h,hk,ho => by
  obtain ⟨h1,h2⟩ := drop_nil h hk
  rw [q1e.eq_1,if_neg (by simp; omega)]
  simp [edB,q0d]
 | e :: l,k,out,ok,h,hk,ho => by
  obtain ⟨g1,g2,g3,g4⟩ := drop_cons h
  obtain ⟨e1,e2,e3⟩ := he e (List.mem_of_getElem? g2)
  have l1 := xq e1
  have l2 := xq e2
  have l3 := tu e3
  rw [q1e.eq_1,if_pos (by simp; omega),g1]
  simp only [Option.bind_eq_bind,Option.bind_some]
  cases ok with
  | true =>
   rw [if_pos rfl,qcz,yo e1,yo e2]
   simp only [Option.bind_some]
   rw [if_pos (by omega),str_eq e3]
   simp only [Option.bind_some]
   rw [if_pos (by simp only [List.length_append]; omega),if_pos (by simp only [List.length_append]; omega),wm (by omega)]
   rw [pEd b r es hl he l (k + 1) _ _ g4 (by omega) (by simp only [List.length_append]; omega),q4f,qbg]
   simp
  | false =>
   rw [if_neg (by simp),yo e1,yo e2]
   simp only [Option.bind_some]
   rw [if_pos (by omega),str_eq e3]
   simp only [Option.bind_some]
   rw [if_pos (by simp only [List.length_append]; omega),if_pos (by simp only [List.length_append]; omega),wm (by omega)]
   rw [pEd b r es hl he l (k + 1) _ _ g4 (by omega) (by simp only [List.length_append]; omega),q4f]
   simp
theorem pSe (b r : T.Op) (ss : Sl T.Sel) (hl : ss.l.length ≤ 100) (he : ∀ e ∈ ss.l,inI e.anchor ∧ inI e.head) : ∀ (l : List T.Sel) (k : Nat) (out : Bytes) (ok : Bool),ss.l.drop k = l → k ≤ ss.l.length → out.length ≤ 100 + k * 200000 →
  q0i (out,ok,ss,(ss.l.length : Int),(k : Int),b,r) = some (out ++ seB l,ok && pz l)
 | [],k,out,ok,h,hk,ho => by
  obtain ⟨h1,h2⟩ := drop_nil h hk
  rw [q0i.eq_1,if_neg (by simp; omega)]
  simp [seB,pz]
 | e :: l,k,out,ok,h,hk,ho => by
  obtain ⟨g1,g2,g3,g4⟩ := drop_cons h
  obtain ⟨e1,e2⟩ := he e (List.mem_of_getElem? g2)
  have l1 := xq e1
  have l2 := xq e2
  rw [q0i.eq_1,if_pos (by simp; omega),g1]
  simp only [Option.bind_eq_bind,Option.bind_some]
  cases ok with
  | true =>
   rw [if_pos rfl,qcz,yo e1,yo e2]
   simp only [Option.bind_some]
   rw [if_pos (by omega),if_pos (by simp only [List.length_append]; omega),wm (by omega)]
   rw [pSe b r ss hl he l (k + 1) _ _ g4 (by omega) (by simp only [List.length_append]; omega),q5j,qch]
   simp
  | false =>
   rw [if_neg (by simp),yo e1,yo e2]
   simp only [Option.bind_some]
   rw [if_pos (by omega),if_pos (by simp only [List.length_append]; omega),wm (by omega)]
   rw [pSe b r ss hl he l (k + 1) _ _ g4 (by omega) (by simp only [List.length_append]; omega),q5j]
   simp
theorem rEd (o : T.Op) (hl : o.edits.l.length ≤ 100) (he : ∀ e ∈ o.edits.l,inI e.span.frm ∧ inI e.span.to ∧ e.text.length ≤ 100000) : ∀ (l : List T.qj) (k : Nat) (out : Bytes),o.edits.l.drop k = l → k ≤ o.edits.l.length → out.length ≤ 100 + k * 200000 →
  (q0d l = true → q15 (out,(k : Int),o) = some (.inr (out ++ edB l))) ∧ (q0d l = false → ∃ s,q15 (out,(k : Int),o) = some (.inl (([] : Bytes),false,s)))
 | [],k,out,h,hk,ho => by
  obtain ⟨h1,h2⟩ := drop_nil h hk
  rw [q15.eq_1,if_neg (by simp; omega)]
  simp [edB,q0d]
 | e :: l,k,out,h,hk,ho => by
  obtain ⟨g1,g2,g3,g4⟩ := drop_cons h
  obtain ⟨e1,e2,e3⟩ := he e (List.mem_of_getElem? g2)
  have l1 := xq e1
  have l2 := xq e2
  have l3 := tu e3
  have l1' : (iT e.span.frm).length + 1 = (zg e.span.frm).length := by simp [zg]
  have l2' : (iT e.span.to).length + 1 = (zg e.span.to).length := by simp [zg]
  rw [q15.eq_1,if_pos (by simp; omega),g1]
  simp only [Option.bind_eq_bind,Option.bind_some]
  rw [q4w,qbg]
  simp only [Option.bind_some]
  by_cases h1 : zq e.span.frm = true
  ·rw [if_neg (by simp [h1]),q4w]
   simp only [Option.bind_some]
   by_cases h2 : zq e.span.to = true
   ·have hs1 : -9223372036854775808 < e.span.frm := by unfold zq at h1; simp at h1; omega
    have hs2 : -9223372036854775808 < e.span.to := by unfold zq at h2; simp at h2; omega
    rw [if_neg (by simp [h2]),if_pos (by simp only [List.length_cons,List.length_nil]; omega),q47 e1 hs1]
    simp only [Option.bind_some]
    rw [if_pos (by simp only [List.length_append,List.length_cons,List.length_nil]; omega),if_pos (by simp only [List.length_append,List.length_cons,List.length_nil]; omega),q47 e2 hs2]
    simp only [Option.bind_some]
    rw [if_pos (by simp only [List.length_append,List.length_cons,List.length_nil]; omega),q6e e3]
    simp only [Option.bind_some]
    rw [if_pos (by simp only [List.length_append,List.length_cons,List.length_nil]; omega),wm (by omega)]
    have ih := rEd o hl he l (k + 1) (((((out ++ [32]) ++ iT e.span.frm) ++ [32]) ++ iT e.span.to) ++ wh e.text) g4 (by omega) (by simp only [List.length_append,List.length_cons,List.length_nil]; omega)
    refine ⟨fun h => ?_,fun h => ?_⟩
    ·rw [ih.1 (by simpa [h1,h2] using h),q4f]
     simp [zg]
    ·exact ih.2 (by simpa [h1,h2] using h)
   ·rw [if_pos (by simp [h2])]
    simp [h2]
  ·rw [if_pos (by simp [h1])]
   simp [h1]
theorem rSe (o : T.Op) (hl : o.sels.l.length ≤ 100) (he : ∀ e ∈ o.sels.l,inI e.anchor ∧ inI e.head) : ∀ (l : List T.Sel) (k : Nat) (out : Bytes),o.sels.l.drop k = l → k ≤ o.sels.l.length → out.length ≤ 100 + k * 200000 →
  (pz l = true → q0t (out,(k : Int),o) = some (.inr (out ++ seB l))) ∧ (pz l = false → ∃ s,q0t (out,(k : Int),o) = some (.inl (([] : Bytes),false,s)))
 | [],k,out,h,hk,ho => by
  obtain ⟨h1,h2⟩ := drop_nil h hk
  rw [q0t.eq_1,if_neg (by simp; omega)]
  simp [seB,pz]
 | e :: l,k,out,h,hk,ho => by
  obtain ⟨g1,g2,g3,g4⟩ := drop_cons h
  obtain ⟨e1,e2⟩ := he e (List.mem_of_getElem? g2)
  have l1 := xq e1
  have l2 := xq e2
  have l1' : (iT e.anchor).length + 1 = (zg e.anchor).length := by simp [zg]
  have l2' : (iT e.head).length + 1 = (zg e.head).length := by simp [zg]
  rw [q0t.eq_1,if_pos (by simp; omega),g1]
  simp only [Option.bind_eq_bind,Option.bind_some]
  rw [q4w,qch]
  simp only [Option.bind_some]
  by_cases h1 : zq e.anchor = true
  ·rw [if_neg (by simp [h1]),q4w]
   simp only [Option.bind_some]
   by_cases h2 : zq e.head = true
   ·have hs1 : -9223372036854775808 < e.anchor := by unfold zq at h1; simp at h1; omega
    have hs2 : -9223372036854775808 < e.head := by unfold zq at h2; simp at h2; omega
    rw [if_neg (by simp [h2]),if_pos (by simp only [List.length_cons,List.length_nil]; omega),q47 e1 hs1]
    simp only [Option.bind_some]
    rw [if_pos (by simp only [List.length_append,List.length_cons,List.length_nil]; omega),if_pos (by simp only [List.length_append,List.length_cons,List.length_nil]; omega),q47 e2 hs2]
    simp only [Option.bind_some]
    rw [if_pos (by simp only [List.length_append,List.length_cons,List.length_nil]; omega),wm (by omega)]
    have ih := rSe o hl he l (k + 1) ((((out ++ [32]) ++ iT e.anchor) ++ [32]) ++ iT e.head) g4 (by omega) (by simp only [List.length_append,List.length_cons,List.length_nil]; omega)
    refine ⟨fun h => ?_,fun h => ?_⟩
    ·rw [ih.1 (by simpa [h1,h2] using h),q5j]
     simp [zg]
    ·exact ih.2 (by simpa [h1,h2] using h)
   ·rw [if_pos (by simp [h2])]
    simp [h2]
  ·rw [if_pos (by simp [h1])]
   simp [h1]
def jw {α : Type} (l : List α) : Bool := decide ((l.length : Int) = 0)
def uf (k : Int) : Bytes := if k = 8 then [110,101,120,116] else if k = 9 then [112,114,101,118] else if k = 10 then [108,101,97,118,101] else if k = 12 then [117,110,100,111] else if k = 13 then [114,101,100,111] else []
def za (o : T.Op) : Bytes :=
 if o.kind = 1 then [115,101,116] ++ wh o.name ++ wh o.text
 else if o.kind = 2 then [116,121,112,101] ++ wh o.text
 else if o.kind = 7 then [105,110,115,101,114,116] ++ wh o.text
 else if o.kind = 3 then [101,114,97,115,101] ++ zg o.n
 else if o.kind = 11 then [99,104,111,111,115,101] ++ zg o.n
 else if o.kind = 6 then [109,111,118,101] ++ zg o.n ++ (if o.extend then [32,49] else [32,48])
 else if o.kind = 4 then [101,100,105,116] ++ edB o.edits.l
 else if o.kind = 5 then [115,101,108,101,99,116] ++ seB o.sels.l
 else uf o.kind
def zt (o : T.Op) : Bool :=
 decide (1 ≤ o.kind) && decide (o.kind ≤ 13) && zq o.n && (o.kind != 4 || q0d o.edits.l) && (o.kind != 5 || pz o.sels.l) &&
 (o.kind == 1 || o.name == []) && (o.kind == 1 || o.kind == 2 || o.kind == 7 || o.text == []) && (o.kind == 3 || o.kind == 11 || o.kind == 6 || o.n == 0) && (o.kind == 6 || !o.extend) &&
 (o.kind == 4 || jw o.edits.l) && (o.kind == 5 || jw o.sels.l)
theorem bare_eq (o : T.Op) : jv o = some (o.name == [] && (o.text == [] && (o.n == 0 && (!o.extend && (jw o.edits.l && jw o.sels.l))))) := by
 unfold jv jw
 split
 ·rename_i h
  simp only [Bool.and_eq_true,beq_iff_eq,Bool.not_eq_true'] at h
  obtain ⟨h1,h2,h3,h4,h5⟩ := h
  simp [h1,h2,h3,h4,h5]
  rw [Bool.eq_iff_iff]
  simp
 ·rename_i h
  congr 1
  rw [Bool.eq_iff_iff]
  simp only [Bool.and_eq_true,beq_iff_eq,Bool.not_eq_true',decide_eq_true_eq] at h ⊢
  constructor
  ·intro h; cases h
  ·rintro ⟨h1,h2,h3,h4,h5,h6⟩
   exact absurd ⟨h1,h2,h3,h4,h5⟩ h
end Go.Proofs.YtlapkkdodjhgpaaGreatDoor
