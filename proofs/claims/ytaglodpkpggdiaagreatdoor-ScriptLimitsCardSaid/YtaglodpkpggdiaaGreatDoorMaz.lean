/-
  Scripts: a line that is told is read as it was; what reads as a line is told so.
-/
import Derived.Test.YtaglodpkpggdiaaGreatDoorMay
set_option linter.unusedSimpArgs false
set_option linter.unusedVariables false
namespace Go.Proofs.YtaglodpkpggdiaaGreatDoor
open Go Go.Gm
def Can (o : T.Op) : Prop := jh o = true ∧ o.edits.nil = o.edits.l.isEmpty ∧ o.sels.nil = o.sels.l.isEmpty
def Texts (o : T.Op) : Prop := o.name.length < 1000000000000000000 ∧ o.text.length < 1000000000000000000 ∧ ∀ e ∈ o.edits.l,e.text.length < 1000000000000000000
theorem gm {L w T R : Bytes} {k : Nat} (h : L.drop k = w ++ (T ++ 10 :: R)) (hw : ∀ c ∈ w,bn c = true) (hT : T = [] ∨ ∃ r,T = 32 :: r) : q1v L k = uk L (um w L (k + w.length)) ∧ L.drop (k + w.length) = T ++ 10 :: R := by
 refine ⟨?_,xz h⟩
 unfold q1v
 rw [qch h hw (fun c r e => ?_)]
 rcases hT with rfl | ⟨r',rfl⟩
 ·cases e; decide
 ·cases e; decide
theorem qbt {α : Type} {L R : Bytes} {s : Option (α × Nat)} {o : α} {j : Nat} (hs : s = some (o,j)) (h : L.drop j = 10 :: R) : uk L s = some (o,j + 1) := by
 subst hs
 unfold uk
 simp only
 rw [if_pos (yj h)]
theorem qhw (n : Int) : ∃ r,xm n = 32 :: r := ⟨_,rfl⟩
theorem qso (l : List T.qd) : edB l = [] ∨ ∃ r,edB l = 32 :: r := by
 cases l with
 | nil => exact .inl rfl
 | cons e l => exact .inr ⟨_,by rw [q72]; rfl⟩
theorem zop (l : List T.Sel) : seB l = [] ∨ ∃ r,seB l = 32 :: r := by
 cases l with
 | nil => exact .inl rfl
 | cons e l => exact .inr ⟨_,by rw [q54]; rfl⟩
theorem qej : ∀ l : List T.qd,l.length ≤ (edB l).length
 | [] => by simp
 | e :: l => by
  have := qej l
  rw [q72,q4o]
  simp only [List.length_append,List.length_cons]
  omega
theorem qep : ∀ l : List T.Sel,l.length ≤ (seB l).length
 | [] => by simp
 | e :: l => by
  have := qep l
  rw [q54,q4o]
  simp only [List.length_append,List.length_cons]
  omega
theorem qb9 {R : Bytes} : ∀ c r,(10 :: R : Bytes) = c :: r → c ≠ 32 := fun c r e => by cases e; decide
theorem qah {L X R : Bytes} {k : Nat} (h : L.drop k = X ++ R) : X.length ≤ L.length := by
 have := congrArg List.length h
 simp only [List.length_drop,List.length_append] at this
 omega
theorem qy4 {L R : Bytes} {m : Nat} {ex : Bool} (h : L.drop m = (if ex then [32,49] else [32,48]) ++ 10 :: R) : q37 L m = some (ex,m + 2) := by
 unfold q37
 cases ex with
 | true =>
  simp only [if_true] at h
  have w4 : L.drop (m + 1) = 49 :: 10 :: R := by
   have := xz (X := [32]) (R := 49 :: 10 :: R) (by simpa using h)
   simpa using this
  rw [if_pos (yj h),if_pos (yj w4)]
 | false =>
  simp only [Bool.false_eq_true,if_false] at h
  have w4 : L.drop (m + 1) = 48 :: 10 :: R := by
   have := xz (X := [32]) (R := 48 :: 10 :: R) (by simpa using h)
   simpa using this
  rw [if_pos (yj h),if_neg (by rw [yj w4]; decide),if_pos (yj w4)]
theorem qgl {L R : Bytes} {k : Nat} {o : T.Op} (hc : Can o) (ht : Texts o) (h : L.drop k = qm o ++ 10 :: R) : q1v L k = some (o,k + (qm o).length + 1) ∧ L.drop (k + (qm o).length + 1) = R := by
 refine ⟨?_,by
  have := xz h
  have h2 := xz (X := [10]) (R := R) (by simpa using this)
  simpa using h2⟩
 obtain ⟨kd,nm,tx,n,ex,⟨en,el⟩,⟨sn,sl⟩⟩ := o
 obtain ⟨h0,he,hs⟩ := hc
 obtain ⟨t1,t2,t3⟩ := ht
 simp only at he hs t1 t2 t3
 have hk : kd = 1 ∨ kd = 2 ∨ kd = 3 ∨ kd = 4 ∨ kd = 5 ∨ kd = 6 ∨ kd = 7 ∨ kd = 8 ∨ kd = 9 ∨ kd = 10 ∨ kd = 11 ∨ kd = 12 ∨ kd = 13 := by
  unfold jh at h0
  simp only [Bool.and_eq_true,decide_eq_true_eq] at h0
  omega
 have fin : ∀ {s : Option (T.Op × Nat)} {w T : Bytes},qm ⟨kd,nm,tx,n,ex,⟨en,el⟩,⟨sn,sl⟩⟩ = w ++ T → L.drop (k + w.length) = T ++ 10 :: R → s = some (⟨kd,nm,tx,n,ex,⟨en,el⟩,⟨sn,sl⟩⟩,k + w.length + T.length) →
   uk L s = some (⟨kd,nm,tx,n,ex,⟨en,el⟩,⟨sn,sl⟩⟩,k + (qm ⟨kd,nm,tx,n,ex,⟨en,el⟩,⟨sn,sl⟩⟩).length + 1) := by
  intro s w T e1 e2 e3
  rw [qbt e3 (xz e2),e1,List.length_append]
  congr 2
  omega
 rcases hk with rfl | rfl | rfl | rfl | rfl | rfl | rfl | rfl | rfl | rfl | rfl | rfl | rfl
 all_goals simp [jh,q0j] at h0
 ·obtain ⟨⟨⟨⟨q0,q1⟩,q2⟩,q3⟩,q4⟩ := h0
  subst q1 q2 q3 q4
  simp at he hs
  subst he hs
  have hl : qm ⟨1,nm,tx,0,false,⟨true,[]⟩,⟨true,[]⟩⟩ = [115,101,116] ++ (kz nm ++ kz tx) := by simp [qm]
  have h' := h
  rw [hl,List.append_assoc] at h'
  obtain ⟨w1,w2⟩ := gm h' (by decide) (.inr ⟨_,by rw [q45]; rfl⟩)
  rw [w1]
  refine fin hl w2 ?_
  rw [List.append_assoc] at w2
  unfold um
  rw [if_pos rfl]
  unfold q77
  rw [q6p w2 t1]
  simp only
  rw [q6p (xz w2) t2]
  simp only [List.length_append,noE,noS]
  congr 2
  omega
 ·obtain ⟨⟨⟨⟨⟨q0,q1⟩,q2⟩,q3⟩,q4⟩,q5⟩ := h0
  subst q1 q2 q3 q4 q5
  simp at he hs
  subst he hs
  have hl : qm ⟨2,[],tx,0,false,⟨true,[]⟩,⟨true,[]⟩⟩ = [116,121,112,101] ++ kz tx := by simp [qm]
  have h' := h
  rw [hl,List.append_assoc] at h'
  obtain ⟨w1,w2⟩ := gm h' (by decide) (.inr ⟨_,by rw [q45]⟩)
  rw [w1]
  refine fin hl w2 ?_
  unfold um
  rw [if_neg (by decide),if_pos rfl,q6p w2 t2]
  rfl
 ·obtain ⟨⟨⟨⟨⟨q0,q1⟩,q2⟩,q3⟩,q4⟩,q5⟩ := h0
  subst q1 q2 q3 q4 q5
  simp at he hs
  subst he hs
  have hl : qm ⟨3,[],[],n,false,⟨true,[]⟩,⟨true,[]⟩⟩ = [101,114,97,115,101] ++ xm n := by simp [qm]
  have h' := h
  rw [hl,List.append_assoc] at h'
  obtain ⟨w1,w2⟩ := gm h' (by decide) (.inr (qhw n))
  rw [w1]
  refine fin hl w2 ?_
  unfold um
  rw [if_neg (by decide),if_neg (by decide),if_neg (by decide),if_pos rfl,q2r w2 q0 (q07 q7f)]
  rfl
 ·obtain ⟨⟨⟨⟨⟨⟨q0,q00⟩,q1⟩,q2⟩,q3⟩,q4⟩,q5⟩ := h0
  subst q1 q2 q3 q4 q5
  simp at hs
  subst hs
  have hl : qm ⟨4,[],[],0,false,⟨en,el⟩,⟨true,[]⟩⟩ = [101,100,105,116] ++ edB el := by simp [qm]
  have h' := h
  rw [hl,List.append_assoc] at h'
  obtain ⟨w1,w2⟩ := gm h' (by decide) (qso el)
  rw [w1]
  refine fin hl w2 ?_
  unfold um
  rw [if_neg (by decide),if_neg (by decide),if_neg (by decide),if_neg (by decide),if_neg (by decide),if_neg (by decide),if_pos rfl]
  unfold q6o
  rw [qfz qb9 el (L.length + 1) _ [] w2 q00 t3 (by have := qah w2; have := qej el; omega)]
  subst he
  rfl
 ·obtain ⟨⟨⟨⟨⟨⟨q0,q00⟩,q1⟩,q2⟩,q3⟩,q4⟩,q5⟩ := h0
  subst q1 q2 q3 q4 q5
  simp at he
  subst he
  have hl : qm ⟨5,[],[],0,false,⟨true,[]⟩,⟨sn,sl⟩⟩ = [115,101,108,101,99,116] ++ seB sl := by simp [qm]
  have h' := h
  rw [hl,List.append_assoc] at h'
  obtain ⟨w1,w2⟩ := gm h' (by decide) (zop sl)
  rw [w1]
  refine fin hl w2 ?_
  unfold um
  rw [if_neg (by decide),if_neg (by decide),if_neg (by decide),if_neg (by decide),if_neg (by decide),if_neg (by decide),if_neg (by decide),if_pos rfl]
  unfold q7b
  rw [qe7 qb9 (q07 q7f) sl (L.length + 1) _ [] w2 q00 (by have := qah w2; have := qep sl; omega)]
  subst hs
  rfl
 ·obtain ⟨⟨⟨⟨q0,q1⟩,q2⟩,q3⟩,q4⟩ := h0
  subst q1 q2 q3 q4
  simp at he hs
  subst he hs
  have hl : qm ⟨6,[],[],n,ex,⟨true,[]⟩,⟨true,[]⟩⟩ = [109,111,118,101] ++ (xm n ++ (if ex then [32,49] else [32,48])) := by simp [qm]
  have h' := h
  rw [hl,List.append_assoc] at h'
  obtain ⟨w1,w2⟩ := gm h' (by decide) (.inr ⟨_,by rw [q4o]; rfl⟩)
  rw [w1]
  refine fin hl w2 ?_
  rw [List.append_assoc] at w2
  unfold um
  rw [if_neg (by decide),if_neg (by decide),if_neg (by decide),if_neg (by decide),if_neg (by decide),if_pos rfl]
  unfold q11
  rw [q2r w2 q0 (by cases ex <;> exact q07 q5w)]
  simp only
  rw [qy4 (xz w2)]
  simp only [noE,noS,List.length_append]
  have : (if ex = true then ([32,49] : Bytes) else [32,48]).length = 2 := by cases ex <;> rfl
  rw [this]
  congr 2
 ·obtain ⟨⟨⟨⟨⟨q0,q1⟩,q2⟩,q3⟩,q4⟩,q5⟩ := h0
  subst q1 q2 q3 q4 q5
  simp at he hs
  subst he hs
  have hl : qm ⟨7,[],tx,0,false,⟨true,[]⟩,⟨true,[]⟩⟩ = [105,110,115,101,114,116] ++ kz tx := by simp [qm]
  have h' := h
  rw [hl,List.append_assoc] at h'
  obtain ⟨w1,w2⟩ := gm h' (by decide) (.inr ⟨_,by rw [q45]⟩)
  rw [w1]
  refine fin hl w2 ?_
  unfold um
  rw [if_neg (by decide),if_neg (by decide),if_pos rfl,q6p w2 t2]
  rfl
 ·obtain ⟨⟨⟨⟨⟨⟨q0,q1⟩,q2⟩,q3⟩,q4⟩,q5⟩,q6⟩ := h0
  subst q1 q2 q3 q4 q5 q6
  simp at he hs
  subst he hs
  have hl : qm ⟨8,[],[],0,false,⟨true,[]⟩,⟨true,[]⟩⟩ = [110,101,120,116] ++ [] := by simp [qm,nk]
  have h' := h
  rw [hl,List.append_assoc] at h'
  obtain ⟨w1,w2⟩ := gm (T := []) h' (by decide) (.inl rfl)
  rw [w1]
  refine fin hl w2 ?_
  rfl
 ·obtain ⟨⟨⟨⟨⟨⟨q0,q1⟩,q2⟩,q3⟩,q4⟩,q5⟩,q6⟩ := h0
  subst q1 q2 q3 q4 q5 q6
  simp at he hs
  subst he hs
  have hl : qm ⟨9,[],[],0,false,⟨true,[]⟩,⟨true,[]⟩⟩ = [112,114,101,118] ++ [] := by simp [qm,nk]
  have h' := h
  rw [hl,List.append_assoc] at h'
  obtain ⟨w1,w2⟩ := gm (T := []) h' (by decide) (.inl rfl)
  rw [w1]
  refine fin hl w2 ?_
  rfl
 ·obtain ⟨⟨⟨⟨⟨⟨q0,q1⟩,q2⟩,q3⟩,q4⟩,q5⟩,q6⟩ := h0
  subst q1 q2 q3 q4 q5 q6
  simp at he hs
  subst he hs
  have hl : qm ⟨10,[],[],0,false,⟨true,[]⟩,⟨true,[]⟩⟩ = [108,101,97,118,101] ++ [] := by simp [qm,nk]
  have h' := h
  rw [hl,List.append_assoc] at h'
  obtain ⟨w1,w2⟩ := gm (T := []) h' (by decide) (.inl rfl)
  rw [w1]
  refine fin hl w2 ?_
  rfl
 ·obtain ⟨⟨⟨⟨⟨q0,q1⟩,q2⟩,q3⟩,q4⟩,q5⟩ := h0
  subst q1 q2 q3 q4 q5
  simp at he hs
  subst he hs
  have hl : qm ⟨11,[],[],n,false,⟨true,[]⟩,⟨true,[]⟩⟩ = [99,104,111,111,115,101] ++ xm n := by simp [qm]
  have h' := h
  rw [hl,List.append_assoc] at h'
  obtain ⟨w1,w2⟩ := gm h' (by decide) (.inr (qhw n))
  rw [w1]
  refine fin hl w2 ?_
  unfold um
  rw [if_neg (by decide),if_neg (by decide),if_neg (by decide),if_neg (by decide),if_pos rfl,q2r w2 q0 (q07 q7f)]
  rfl
 ·obtain ⟨⟨⟨⟨⟨⟨q0,q1⟩,q2⟩,q3⟩,q4⟩,q5⟩,q6⟩ := h0
  subst q1 q2 q3 q4 q5 q6
  simp at he hs
  subst he hs
  have hl : qm ⟨12,[],[],0,false,⟨true,[]⟩,⟨true,[]⟩⟩ = [117,110,100,111] ++ [] := by simp [qm,nk]
  have h' := h
  rw [hl,List.append_assoc] at h'
  obtain ⟨w1,w2⟩ := gm (T := []) h' (by decide) (.inl rfl)
  rw [w1]
  refine fin hl w2 ?_
  rfl
 ·obtain ⟨⟨⟨⟨⟨⟨q0,q1⟩,q2⟩,q3⟩,q4⟩,q5⟩,q6⟩ := h0
  subst q1 q2 q3 q4 q5 q6
  simp at he hs
  subst he hs
  have hl : qm ⟨13,[],[],0,false,⟨true,[]⟩,⟨true,[]⟩⟩ = [114,101,100,111] ++ [] := by simp [qm,nk]
  have h' := h
  rw [hl,List.append_assoc] at h'
  obtain ⟨w1,w2⟩ := gm (T := []) h' (by decide) (.inl rfl)
  rw [w1]
  refine fin hl w2 ?_
  rfl
end Go.Proofs.YtaglodpkpggdiaaGreatDoor
