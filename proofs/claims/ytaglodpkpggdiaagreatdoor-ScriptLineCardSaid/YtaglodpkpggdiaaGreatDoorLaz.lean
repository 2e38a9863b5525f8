/-
  Scripts: a line that is told is read as it was; what reads as a line is told so.
-/
import Derived.Test.YtaglodpkpggdiaaGreatDoorLay
set_option linter.unusedSimpArgs false
set_option linter.unusedVariables false
namespace Go.Proofs.YtaglodpkpggdiaaGreatDoor
open Go Go.Gm
def Can (o : T.Op) : Prop := xe o = true ∧ o.edits.nil = o.edits.l.isEmpty ∧ o.sels.nil = o.sels.l.isEmpty
def Texts (o : T.Op) : Prop := o.name.length < 1000000000000000000 ∧ o.text.length < 1000000000000000000 ∧ ∀ e ∈ o.edits.l,e.text.length < 1000000000000000000
theorem bq {L w T R : Bytes} {k : Nat} (h : L.drop k = w ++ (T ++ 10 :: R)) (hw : ∀ c ∈ w,mq c = true) (hT : T = [] ∨ ∃ r,T = 32 :: r) : uz L k = yg L (yu w L (k + w.length)) ∧ L.drop (k + w.length) = T ++ 10 :: R := by
 refine ⟨?_,jd h⟩
 unfold uz
 rw [qf0 h hw (fun c r e => ?_)]
 rcases hT with rfl | ⟨r',rfl⟩
 ·cases e; decide
 ·cases e; decide
theorem qdw {α : Type} {L R : Bytes} {s : Option (α × Nat)} {o : α} {j : Nat} (hs : s = some (o,j)) (h : L.drop j = 10 :: R) : yg L s = some (o,j + 1) := by
 subst hs
 unfold yg
 simp only
 rw [if_pos (yw h)]
theorem qfa (n : Int) : ∃ r,xw n = 32 :: r := ⟨_,rfl⟩
theorem z3g (l : List T.qb) : edB l = [] ∨ ∃ r,edB l = 32 :: r := by
 cases l with
 | nil => exact .inl rfl
 | cons e l => exact .inr ⟨_,by rw [q5s]; rfl⟩
theorem qwo (l : List T.Sel) : seB l = [] ∨ ∃ r,seB l = 32 :: r := by
 cases l with
 | nil => exact .inl rfl
 | cons e l => exact .inr ⟨_,by rw [q4d]; rfl⟩
theorem qbz : ∀ l : List T.qb,l.length ≤ (edB l).length
 | [] => by simp
 | e :: l => by
  have := qbz l
  rw [q5s,q47]
  simp only [List.length_append,List.length_cons]
  omega
theorem qhq : ∀ l : List T.Sel,l.length ≤ (seB l).length
 | [] => by simp
 | e :: l => by
  have := qhq l
  rw [q4d,q47]
  simp only [List.length_append,List.length_cons]
  omega
theorem qap {R : Bytes} : ∀ c r,(10 :: R : Bytes) = c :: r → c ≠ 32 := fun c r e => by cases e; decide
theorem qak {L X R : Bytes} {k : Nat} (h : L.drop k = X ++ R) : X.length ≤ L.length := by
 have := congrArg List.length h
 simp only [List.length_drop,List.length_append] at this
 omega
theorem zid {L R : Bytes} {m : Nat} {ex : Bool} (h : L.drop m = (if ex then [32,49] else [32,48]) ++ 10 :: R) : tu L m = some (ex,m + 2) := by
 unfold tu
 cases ex with
 | true =>
  simp only [if_true] at h
  have w4 : L.drop (m + 1) = 49 :: 10 :: R := by
   have := jd (X := [32]) (R := 49 :: 10 :: R) (by simpa using h)
   simpa using this
  rw [if_pos (yw h),if_pos (yw w4)]
 | false =>
  simp only [Bool.false_eq_true,if_false] at h
  have w4 : L.drop (m + 1) = 48 :: 10 :: R := by
   have := jd (X := [32]) (R := 48 :: 10 :: R) (by simpa using h)
   simpa using this
  rw [if_pos (yw h),if_neg (by rw [yw w4]; decide),if_pos (yw w4)]
theorem zns {L R : Bytes} {k : Nat} {o : T.Op} (hc : Can o) (ht : Texts o) (h : L.drop k = qo o ++ 10 :: R) : uz L k = some (o,k + (qo o).length + 1) ∧ L.drop (k + (qo o).length + 1) = R := by
 refine ⟨?_,by
  have := jd h
  have h2 := jd (X := [10]) (R := R) (by simpa using this)
  simpa using h2⟩
 obtain ⟨kd,nm,tx,n,ex,⟨en,el⟩,⟨sn,sl⟩⟩ := o
 obtain ⟨h0,he,hs⟩ := hc
 obtain ⟨t1,t2,t3⟩ := ht
 simp only at he hs t1 t2 t3
 have hk : kd = 1 ∨ kd = 2 ∨ kd = 3 ∨ kd = 4 ∨ kd = 5 ∨ kd = 6 ∨ kd = 7 ∨ kd = 8 ∨ kd = 9 ∨ kd = 10 ∨ kd = 11 ∨ kd = 12 ∨ kd = 13 := by
  unfold xe at h0
  simp only [Bool.and_eq_true,decide_eq_true_eq] at h0
  omega
 have fin : ∀ {s : Option (T.Op × Nat)} {w T : Bytes},qo ⟨kd,nm,tx,n,ex,⟨en,el⟩,⟨sn,sl⟩⟩ = w ++ T → L.drop (k + w.length) = T ++ 10 :: R → s = some (⟨kd,nm,tx,n,ex,⟨en,el⟩,⟨sn,sl⟩⟩,k + w.length + T.length) →
   yg L s = some (⟨kd,nm,tx,n,ex,⟨en,el⟩,⟨sn,sl⟩⟩,k + (qo ⟨kd,nm,tx,n,ex,⟨en,el⟩,⟨sn,sl⟩⟩).length + 1) := by
  intro s w T e1 e2 e3
  rw [qdw e3 (jd e2),e1,List.length_append]
  congr 2
  omega
 rcases hk with rfl | rfl | rfl | rfl | rfl | rfl | rfl | rfl | rfl | rfl | rfl | rfl | rfl
 all_goals simp [xe,ve] at h0
 ·obtain ⟨⟨⟨⟨q0,q1⟩,q2⟩,q3⟩,q4⟩ := h0
  subst q1 q2 q3 q4
  simp at he hs
  subst he hs
  have hl : qo ⟨1,nm,tx,0,false,⟨true,[]⟩,⟨true,[]⟩⟩ = [115,101,116] ++ (vw nm ++ vw tx) := by simp [qo]
  have h' := h
  rw [hl,List.append_assoc] at h'
  obtain ⟨w1,w2⟩ := bq h' (by decide) (.inr ⟨_,by rw [q5w]; rfl⟩)
  rw [w1]
  refine fin hl w2 ?_
  rw [List.append_assoc] at w2
  unfold yu
  rw [if_pos rfl]
  unfold q2u
  rw [q6y w2 t1]
  simp only
  rw [q6y (jd w2) t2]
  simp only [List.length_append,noE,noS]
  congr 2
  omega
 ·obtain ⟨⟨⟨⟨⟨q0,q1⟩,q2⟩,q3⟩,q4⟩,q5⟩ := h0
  subst q1 q2 q3 q4 q5
  simp at he hs
  subst he hs
  have hl : qo ⟨2,[],tx,0,false,⟨true,[]⟩,⟨true,[]⟩⟩ = [116,121,112,101] ++ vw tx := by simp [qo]
  have h' := h
  rw [hl,List.append_assoc] at h'
  obtain ⟨w1,w2⟩ := bq h' (by decide) (.inr ⟨_,by rw [q5w]⟩)
  rw [w1]
  refine fin hl w2 ?_
  unfold yu
  rw [if_neg (by decide),if_pos rfl,q6y w2 t2]
  rfl
 ·obtain ⟨⟨⟨⟨⟨q0,q1⟩,q2⟩,q3⟩,q4⟩,q5⟩ := h0
  subst q1 q2 q3 q4 q5
  simp at he hs
  subst he hs
  have hl : qo ⟨3,[],[],n,false,⟨true,[]⟩,⟨true,[]⟩⟩ = [101,114,97,115,101] ++ xw n := by simp [qo]
  have h' := h
  rw [hl,List.append_assoc] at h'
  obtain ⟨w1,w2⟩ := bq h' (by decide) (.inr (qfa n))
  rw [w1]
  refine fin hl w2 ?_
  unfold yu
  rw [if_neg (by decide),if_neg (by decide),if_neg (by decide),if_pos rfl,q3u w2 q0 (q0a q84)]
  rfl
 ·obtain ⟨⟨⟨⟨⟨⟨q0,q00⟩,q1⟩,q2⟩,q3⟩,q4⟩,q5⟩ := h0
  subst q1 q2 q3 q4 q5
  simp at hs
  subst hs
  have hl : qo ⟨4,[],[],0,false,⟨en,el⟩,⟨true,[]⟩⟩ = [101,100,105,116] ++ edB el := by simp [qo]
  have h' := h
  rw [hl,List.append_assoc] at h'
  obtain ⟨w1,w2⟩ := bq h' (by decide) (z3g el)
  rw [w1]
  refine fin hl w2 ?_
  unfold yu
  rw [if_neg (by decide),if_neg (by decide),if_neg (by decide),if_neg (by decide),if_neg (by decide),if_neg (by decide),if_pos rfl]
  unfold q33
  rw [qed qap el (L.length + 1) _ [] w2 q00 t3 (by have := qak w2; have := qbz el; omega)]
  subst he
  rfl
 ·obtain ⟨⟨⟨⟨⟨⟨q0,q00⟩,q1⟩,q2⟩,q3⟩,q4⟩,q5⟩ := h0
  subst q1 q2 q3 q4 q5
  simp at he
  subst he
  have hl : qo ⟨5,[],[],0,false,⟨true,[]⟩,⟨sn,sl⟩⟩ = [115,101,108,101,99,116] ++ seB sl := by simp [qo]
  have h' := h
  rw [hl,List.append_assoc] at h'
  obtain ⟨w1,w2⟩ := bq h' (by decide) (qwo sl)
  rw [w1]
  refine fin hl w2 ?_
  unfold yu
  rw [if_neg (by decide),if_neg (by decide),if_neg (by decide),if_neg (by decide),if_neg (by decide),if_neg (by decide),if_neg (by decide),if_pos rfl]
  unfold q3g
  rw [qch qap (q0a q84) sl (L.length + 1) _ [] w2 q00 (by have := qak w2; have := qhq sl; omega)]
  subst hs
  rfl
 ·obtain ⟨⟨⟨⟨q0,q1⟩,q2⟩,q3⟩,q4⟩ := h0
  subst q1 q2 q3 q4
  simp at he hs
  subst he hs
  have hl : qo ⟨6,[],[],n,ex,⟨true,[]⟩,⟨true,[]⟩⟩ = [109,111,118,101] ++ (xw n ++ (if ex then [32,49] else [32,48])) := by simp [qo]
  have h' := h
  rw [hl,List.append_assoc] at h'
  obtain ⟨w1,w2⟩ := bq h' (by decide) (.inr ⟨_,by rw [q47]; rfl⟩)
  rw [w1]
  refine fin hl w2 ?_
  rw [List.append_assoc] at w2
  unfold yu
  rw [if_neg (by decide),if_neg (by decide),if_neg (by decide),if_neg (by decide),if_neg (by decide),if_pos rfl]
  unfold nu
  rw [q3u w2 q0 (by cases ex <;> exact q0a q5k)]
  simp only
  rw [zid (jd w2)]
  simp only [noE,noS,List.length_append]
  have : (if ex = true then ([32,49] : Bytes) else [32,48]).length = 2 := by cases ex <;> rfl
  rw [this]
  congr 2
 ·obtain ⟨⟨⟨⟨⟨q0,q1⟩,q2⟩,q3⟩,q4⟩,q5⟩ := h0
  subst q1 q2 q3 q4 q5
  simp at he hs
  subst he hs
  have hl : qo ⟨7,[],tx,0,false,⟨true,[]⟩,⟨true,[]⟩⟩ = [105,110,115,101,114,116] ++ vw tx := by simp [qo]
  have h' := h
  rw [hl,List.append_assoc] at h'
  obtain ⟨w1,w2⟩ := bq h' (by decide) (.inr ⟨_,by rw [q5w]⟩)
  rw [w1]
  refine fin hl w2 ?_
  unfold yu
  rw [if_neg (by decide),if_neg (by decide),if_pos rfl,q6y w2 t2]
  rfl
 ·obtain ⟨⟨⟨⟨⟨⟨q0,q1⟩,q2⟩,q3⟩,q4⟩,q5⟩,q6⟩ := h0
  subst q1 q2 q3 q4 q5 q6
  simp at he hs
  subst he hs
  have hl : qo ⟨8,[],[],0,false,⟨true,[]⟩,⟨true,[]⟩⟩ = [110,101,120,116] ++ [] := by simp [qo,bf]
  have h' := h
  rw [hl,List.append_assoc] at h'
  obtain ⟨w1,w2⟩ := bq (T := []) h' (by decide) (.inl rfl)
  rw [w1]
  refine fin hl w2 ?_
  rfl
 ·obtain ⟨⟨⟨⟨⟨⟨q0,q1⟩,q2⟩,q3⟩,q4⟩,q5⟩,q6⟩ := h0
  subst q1 q2 q3 q4 q5 q6
  simp at he hs
  subst he hs
  have hl : qo ⟨9,[],[],0,false,⟨true,[]⟩,⟨true,[]⟩⟩ = [112,114,101,118] ++ [] := by simp [qo,bf]
  have h' := h
  rw [hl,List.append_assoc] at h'
  obtain ⟨w1,w2⟩ := bq (T := []) h' (by decide) (.inl rfl)
  rw [w1]
  refine fin hl w2 ?_
  rfl
 ·obtain ⟨⟨⟨⟨⟨⟨q0,q1⟩,q2⟩,q3⟩,q4⟩,q5⟩,q6⟩ := h0
  subst q1 q2 q3 q4 q5 q6
  simp at he hs
  subst he hs
  have hl : qo ⟨10,[],[],0,false,⟨true,[]⟩,⟨true,[]⟩⟩ = [108,101,97,118,101] ++ [] := by simp [qo,bf]
  have h' := h
  rw [hl,List.append_assoc] at h'
  obtain ⟨w1,w2⟩ := bq (T := []) h' (by decide) (.inl rfl)
  rw [w1]
  refine fin hl w2 ?_
  rfl
 ·obtain ⟨⟨⟨⟨⟨q0,q1⟩,q2⟩,q3⟩,q4⟩,q5⟩ := h0
  subst q1 q2 q3 q4 q5
  simp at he hs
  subst he hs
  have hl : qo ⟨11,[],[],n,false,⟨true,[]⟩,⟨true,[]⟩⟩ = [99,104,111,111,115,101] ++ xw n := by simp [qo]
  have h' := h
  rw [hl,List.append_assoc] at h'
  obtain ⟨w1,w2⟩ := bq h' (by decide) (.inr (qfa n))
  rw [w1]
  refine fin hl w2 ?_
  unfold yu
  rw [if_neg (by decide),if_neg (by decide),if_neg (by decide),if_neg (by decide),if_pos rfl,q3u w2 q0 (q0a q84)]
  rfl
 ·obtain ⟨⟨⟨⟨⟨⟨q0,q1⟩,q2⟩,q3⟩,q4⟩,q5⟩,q6⟩ := h0
  subst q1 q2 q3 q4 q5 q6
  simp at he hs
  subst he hs
  have hl : qo ⟨12,[],[],0,false,⟨true,[]⟩,⟨true,[]⟩⟩ = [117,110,100,111] ++ [] := by simp [qo,bf]
  have h' := h
  rw [hl,List.append_assoc] at h'
  obtain ⟨w1,w2⟩ := bq (T := []) h' (by decide) (.inl rfl)
  rw [w1]
  refine fin hl w2 ?_
  rfl
 ·obtain ⟨⟨⟨⟨⟨⟨q0,q1⟩,q2⟩,q3⟩,q4⟩,q5⟩,q6⟩ := h0
  subst q1 q2 q3 q4 q5 q6
  simp at he hs
  subst he hs
  have hl : qo ⟨13,[],[],0,false,⟨true,[]⟩,⟨true,[]⟩⟩ = [114,101,100,111] ++ [] := by simp [qo,bf]
  have h' := h
  rw [hl,List.append_assoc] at h'
  obtain ⟨w1,w2⟩ := bq (T := []) h' (by decide) (.inl rfl)
  rw [w1]
  refine fin hl w2 ?_
  rfl
end Go.Proofs.YtaglodpkpggdiaaGreatDoor
