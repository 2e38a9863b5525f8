/-
  Scripts: a line that is told is read as it was; what reads as a line is told so.
-/
import Derived.Test.YtaglodpkpggdiaaGreatDoorAay
set_option linter.unusedSimpArgs false
set_option linter.unusedVariables false
namespace Go.Proofs.YtaglodpkpggdiaaGreatDoor
open Go Go.Gm
def Can (o : T.Op) : Prop := zi o = true ∧ o.edits.nil = o.edits.l.isEmpty ∧ o.sels.nil = o.sels.l.isEmpty
def Texts (o : T.Op) : Prop := o.name.length < 1000000000000000000 ∧ o.text.length < 1000000000000000000 ∧ ∀ e ∈ o.edits.l,e.text.length < 1000000000000000000
theorem nk {L w T R : Bytes} {k : Nat} (h : L.drop k = w ++ (T ++ 10 :: R)) (hw : ∀ c ∈ w,uz c = true) (hT : T = [] ∨ ∃ r,T = 32 :: r) : gu L k = ku L (uj w L (k + w.length)) ∧ L.drop (k + w.length) = T ++ 10 :: R := by
 refine ⟨?_,ja h⟩
 unfold gu
 rw [qe4 h hw (fun c r e => ?_)]
 rcases hT with rfl | ⟨r',rfl⟩
 ·cases e; decide
 ·cases e; decide
theorem qch {α : Type} {L R : Bytes} {s : Option (α × Nat)} {o : α} {j : Nat} (hs : s = some (o,j)) (h : L.drop j = 10 :: R) : ku L s = some (o,j + 1) := by
 subst hs
 unfold ku
 simp only
 rw [if_pos (vw h)]
theorem qcj (n : Int) : ∃ r,xg n = 32 :: r := ⟨_,rfl⟩
theorem zeo (l : List T.qb) : edB l = [] ∨ ∃ r,edB l = 32 :: r := by
 cases l with
 | nil => exact .inl rfl
 | cons e l => exact .inr ⟨_,by rw [q3o]; rfl⟩
theorem zd9 (l : List T.Sel) : seB l = [] ∨ ∃ r,seB l = 32 :: r := by
 cases l with
 | nil => exact .inl rfl
 | cons e l => exact .inr ⟨_,by rw [q2l]; rfl⟩
theorem qe8 : ∀ l : List T.qb,l.length ≤ (edB l).length
 | [] => by simp
 | e :: l => by
  have := qe8 l
  rw [q3o,mg]
  simp only [List.length_append,List.length_cons]
  omega
theorem qda : ∀ l : List T.Sel,l.length ≤ (seB l).length
 | [] => by simp
 | e :: l => by
  have := qda l
  rw [q2l,mg]
  simp only [List.length_append,List.length_cons]
  omega
theorem qc7 {R : Bytes} : ∀ c r,(10 :: R : Bytes) = c :: r → c ≠ 32 := fun c r e => by cases e; decide
theorem qb6 {L X R : Bytes} {k : Nat} (h : L.drop k = X ++ R) : X.length ≤ L.length := by
 have := congrArg List.length h
 simp only [List.length_drop,List.length_append] at this
 omega
theorem zhw {L R : Bytes} {m : Nat} {ex : Bool} (h : L.drop m = (if ex then [32,49] else [32,48]) ++ 10 :: R) : q1c L m = some (ex,m + 2) := by
 unfold q1c
 cases ex with
 | true =>
  simp only [if_true] at h
  have w4 : L.drop (m + 1) = 49 :: 10 :: R := by
   have := ja (X := [32]) (R := 49 :: 10 :: R) (by simpa using h)
   simpa using this
  rw [if_pos (vw h),if_pos (vw w4)]
 | false =>
  simp only [Bool.false_eq_true,if_false] at h
  have w4 : L.drop (m + 1) = 48 :: 10 :: R := by
   have := ja (X := [32]) (R := 48 :: 10 :: R) (by simpa using h)
   simpa using this
  rw [if_pos (vw h),if_neg (by rw [vw w4]; decide),if_pos (vw w4)]
theorem qpl {L R : Bytes} {k : Nat} {o : T.Op} (hc : Can o) (ht : Texts o) (h : L.drop k = qi o ++ 10 :: R) : gu L k = some (o,k + (qi o).length + 1) ∧ L.drop (k + (qi o).length + 1) = R := by
 refine ⟨?_,by
  have := ja h
  have h2 := ja (X := [10]) (R := R) (by simpa using this)
  simpa using h2⟩
 obtain ⟨kd,nm,tx,n,ex,⟨en,el⟩,⟨sn,sl⟩⟩ := o
 obtain ⟨h0,he,hs⟩ := hc
 obtain ⟨t1,t2,t3⟩ := ht
 simp only at he hs t1 t2 t3
 have hk : kd = 1 ∨ kd = 2 ∨ kd = 3 ∨ kd = 4 ∨ kd = 5 ∨ kd = 6 ∨ kd = 7 ∨ kd = 8 ∨ kd = 9 ∨ kd = 10 ∨ kd = 11 ∨ kd = 12 ∨ kd = 13 := by
  unfold zi at h0
  simp only [Bool.and_eq_true,decide_eq_true_eq] at h0
  omega
 have fin : ∀ {s : Option (T.Op × Nat)} {w T : Bytes},qi ⟨kd,nm,tx,n,ex,⟨en,el⟩,⟨sn,sl⟩⟩ = w ++ T → L.drop (k + w.length) = T ++ 10 :: R → s = some (⟨kd,nm,tx,n,ex,⟨en,el⟩,⟨sn,sl⟩⟩,k + w.length + T.length) →
   ku L s = some (⟨kd,nm,tx,n,ex,⟨en,el⟩,⟨sn,sl⟩⟩,k + (qi ⟨kd,nm,tx,n,ex,⟨en,el⟩,⟨sn,sl⟩⟩).length + 1) := by
  intro s w T e1 e2 e3
  rw [qch e3 (ja e2),e1,List.length_append]
  congr 2
  omega
 rcases hk with rfl | rfl | rfl | rfl | rfl | rfl | rfl | rfl | rfl | rfl | rfl | rfl | rfl
 all_goals simp [zi,xq] at h0
 ·obtain ⟨⟨⟨⟨q0,q1⟩,q2⟩,q3⟩,q4⟩ := h0
  subst q1 q2 q3 q4
  simp at he hs
  subst he hs
  have hl : qi ⟨1,nm,tx,0,false,⟨true,[]⟩,⟨true,[]⟩⟩ = [115,101,116] ++ (jo nm ++ jo tx) := by simp [qi]
  have h' := h
  rw [hl,List.append_assoc] at h'
  obtain ⟨w1,w2⟩ := nk h' (by decide) (.inr ⟨_,by rw [q28]; rfl⟩)
  rw [w1]
  refine fin hl w2 ?_
  rw [List.append_assoc] at w2
  unfold uj
  rw [if_pos rfl]
  unfold q5n
  rw [q6v w2 t1]
  simp only
  rw [q6v (ja w2) t2]
  simp only [List.length_append,noE,noS]
  congr 2
  omega
 ·obtain ⟨⟨⟨⟨⟨q0,q1⟩,q2⟩,q3⟩,q4⟩,q5⟩ := h0
  subst q1 q2 q3 q4 q5
  simp at he hs
  subst he hs
  have hl : qi ⟨2,[],tx,0,false,⟨true,[]⟩,⟨true,[]⟩⟩ = [116,121,112,101] ++ jo tx := by simp [qi]
  have h' := h
  rw [hl,List.append_assoc] at h'
  obtain ⟨w1,w2⟩ := nk h' (by decide) (.inr ⟨_,by rw [q28]⟩)
  rw [w1]
  refine fin hl w2 ?_
  unfold uj
  rw [if_neg (by decide),if_pos rfl,q6v w2 t2]
  rfl
 ·obtain ⟨⟨⟨⟨⟨q0,q1⟩,q2⟩,q3⟩,q4⟩,q5⟩ := h0
  subst q1 q2 q3 q4 q5
  simp at he hs
  subst he hs
  have hl : qi ⟨3,[],[],n,false,⟨true,[]⟩,⟨true,[]⟩⟩ = [101,114,97,115,101] ++ xg n := by simp [qi]
  have h' := h
  rw [hl,List.append_assoc] at h'
  obtain ⟨w1,w2⟩ := nk h' (by decide) (.inr (qcj n))
  rw [w1]
  refine fin hl w2 ?_
  unfold uj
  rw [if_neg (by decide),if_neg (by decide),if_neg (by decide),if_pos rfl,q3p w2 q0 (q0v q8d)]
  rfl
 ·obtain ⟨⟨⟨⟨⟨⟨q0,q00⟩,q1⟩,q2⟩,q3⟩,q4⟩,q5⟩ := h0
  subst q1 q2 q3 q4 q5
  simp at hs
  subst hs
  have hl : qi ⟨4,[],[],0,false,⟨en,el⟩,⟨true,[]⟩⟩ = [101,100,105,116] ++ edB el := by simp [qi]
  have h' := h
  rw [hl,List.append_assoc] at h'
  obtain ⟨w1,w2⟩ := nk h' (by decide) (zeo el)
  rw [w1]
  refine fin hl w2 ?_
  unfold uj
  rw [if_neg (by decide),if_neg (by decide),if_neg (by decide),if_neg (by decide),if_neg (by decide),if_neg (by decide),if_pos rfl]
  unfold q5x
  rw [qfg qc7 el (L.length + 1) _ [] w2 q00 t3 (by have := qb6 w2; have := qe8 el; omega)]
  subst he
  rfl
 ·obtain ⟨⟨⟨⟨⟨⟨q0,q00⟩,q1⟩,q2⟩,q3⟩,q4⟩,q5⟩ := h0
  subst q1 q2 q3 q4 q5
  simp at he
  subst he
  have hl : qi ⟨5,[],[],0,false,⟨true,[]⟩,⟨sn,sl⟩⟩ = [115,101,108,101,99,116] ++ seB sl := by simp [qi]
  have h' := h
  rw [hl,List.append_assoc] at h'
  obtain ⟨w1,w2⟩ := nk h' (by decide) (zd9 sl)
  rw [w1]
  refine fin hl w2 ?_
  unfold uj
  rw [if_neg (by decide),if_neg (by decide),if_neg (by decide),if_neg (by decide),if_neg (by decide),if_neg (by decide),if_neg (by decide),if_pos rfl]
  unfold q61
  rw [qfd qc7 (q0v q8d) sl (L.length + 1) _ [] w2 q00 (by have := qb6 w2; have := qda sl; omega)]
  subst hs
  rfl
 ·obtain ⟨⟨⟨⟨q0,q1⟩,q2⟩,q3⟩,q4⟩ := h0
  subst q1 q2 q3 q4
  simp at he hs
  subst he hs
  have hl : qi ⟨6,[],[],n,ex,⟨true,[]⟩,⟨true,[]⟩⟩ = [109,111,118,101] ++ (xg n ++ (if ex then [32,49] else [32,48])) := by simp [qi]
  have h' := h
  rw [hl,List.append_assoc] at h'
  obtain ⟨w1,w2⟩ := nk h' (by decide) (.inr ⟨_,by rw [mg]; rfl⟩)
  rw [w1]
  refine fin hl w2 ?_
  rw [List.append_assoc] at w2
  unfold uj
  rw [if_neg (by decide),if_neg (by decide),if_neg (by decide),if_neg (by decide),if_neg (by decide),if_pos rfl]
  unfold q0o
  rw [q3p w2 q0 (by cases ex <;> exact q0v q63)]
  simp only
  rw [zhw (ja w2)]
  simp only [noE,noS,List.length_append]
  have : (if ex = true then ([32,49] : Bytes) else [32,48]).length = 2 := by cases ex <;> rfl
  rw [this]
  congr 2
 ·obtain ⟨⟨⟨⟨⟨q0,q1⟩,q2⟩,q3⟩,q4⟩,q5⟩ := h0
  subst q1 q2 q3 q4 q5
  simp at he hs
  subst he hs
  have hl : qi ⟨7,[],tx,0,false,⟨true,[]⟩,⟨true,[]⟩⟩ = [105,110,115,101,114,116] ++ jo tx := by simp [qi]
  have h' := h
  rw [hl,List.append_assoc] at h'
  obtain ⟨w1,w2⟩ := nk h' (by decide) (.inr ⟨_,by rw [q28]⟩)
  rw [w1]
  refine fin hl w2 ?_
  unfold uj
  rw [if_neg (by decide),if_neg (by decide),if_pos rfl,q6v w2 t2]
  rfl
 ·obtain ⟨⟨⟨⟨⟨⟨q0,q1⟩,q2⟩,q3⟩,q4⟩,q5⟩,q6⟩ := h0
  subst q1 q2 q3 q4 q5 q6
  simp at he hs
  subst he hs
  have hl : qi ⟨8,[],[],0,false,⟨true,[]⟩,⟨true,[]⟩⟩ = [110,101,120,116] ++ [] := by simp [qi,bu]
  have h' := h
  rw [hl,List.append_assoc] at h'
  obtain ⟨w1,w2⟩ := nk (T := []) h' (by decide) (.inl rfl)
  rw [w1]
  refine fin hl w2 ?_
  rfl
 ·obtain ⟨⟨⟨⟨⟨⟨q0,q1⟩,q2⟩,q3⟩,q4⟩,q5⟩,q6⟩ := h0
  subst q1 q2 q3 q4 q5 q6
  simp at he hs
  subst he hs
  have hl : qi ⟨9,[],[],0,false,⟨true,[]⟩,⟨true,[]⟩⟩ = [112,114,101,118] ++ [] := by simp [qi,bu]
  have h' := h
  rw [hl,List.append_assoc] at h'
  obtain ⟨w1,w2⟩ := nk (T := []) h' (by decide) (.inl rfl)
  rw [w1]
  refine fin hl w2 ?_
  rfl
 ·obtain ⟨⟨⟨⟨⟨⟨q0,q1⟩,q2⟩,q3⟩,q4⟩,q5⟩,q6⟩ := h0
  subst q1 q2 q3 q4 q5 q6
  simp at he hs
  subst he hs
  have hl : qi ⟨10,[],[],0,false,⟨true,[]⟩,⟨true,[]⟩⟩ = [108,101,97,118,101] ++ [] := by simp [qi,bu]
  have h' := h
  rw [hl,List.append_assoc] at h'
  obtain ⟨w1,w2⟩ := nk (T := []) h' (by decide) (.inl rfl)
  rw [w1]
  refine fin hl w2 ?_
  rfl
 ·obtain ⟨⟨⟨⟨⟨q0,q1⟩,q2⟩,q3⟩,q4⟩,q5⟩ := h0
  subst q1 q2 q3 q4 q5
  simp at he hs
  subst he hs
  have hl : qi ⟨11,[],[],n,false,⟨true,[]⟩,⟨true,[]⟩⟩ = [99,104,111,111,115,101] ++ xg n := by simp [qi]
  have h' := h
  rw [hl,List.append_assoc] at h'
  obtain ⟨w1,w2⟩ := nk h' (by decide) (.inr (qcj n))
  rw [w1]
  refine fin hl w2 ?_
  unfold uj
  rw [if_neg (by decide),if_neg (by decide),if_neg (by decide),if_neg (by decide),if_pos rfl,q3p w2 q0 (q0v q8d)]
  rfl
 ·obtain ⟨⟨⟨⟨⟨⟨q0,q1⟩,q2⟩,q3⟩,q4⟩,q5⟩,q6⟩ := h0
  subst q1 q2 q3 q4 q5 q6
  simp at he hs
  subst he hs
  have hl : qi ⟨12,[],[],0,false,⟨true,[]⟩,⟨true,[]⟩⟩ = [117,110,100,111] ++ [] := by simp [qi,bu]
  have h' := h
  rw [hl,List.append_assoc] at h'
  obtain ⟨w1,w2⟩ := nk (T := []) h' (by decide) (.inl rfl)
  rw [w1]
  refine fin hl w2 ?_
  rfl
 ·obtain ⟨⟨⟨⟨⟨⟨q0,q1⟩,q2⟩,q3⟩,q4⟩,q5⟩,q6⟩ := h0
  subst q1 q2 q3 q4 q5 q6
  simp at he hs
  subst he hs
  have hl : qi ⟨13,[],[],0,false,⟨true,[]⟩,⟨true,[]⟩⟩ = [114,101,100,111] ++ [] := by simp [qi,bu]
  have h' := h
  rw [hl,List.append_assoc] at h'
  obtain ⟨w1,w2⟩ := nk (T := []) h' (by decide) (.inl rfl)
  rw [w1]
  refine fin hl w2 ?_
  rfl
end Go.Proofs.YtaglodpkpggdiaaGreatDoor
