/-
  Scripts: what reads as a line is told so.
-/
import Derived.Test.YtaglodpkpggdiaaGreatDoorAaz
set_option linter.unusedSimpArgs false
set_option linter.unusedVariables false
namespace Go.Proofs.YtaglodpkpggdiaaGreatDoor
open Go Go.Gm
theorem qs7 {L : Bytes} {m j : Nat} {ex : Bool} (h : q1c L m = some (ex,j)) : L.drop m = (if ex then [32,49] else [32,48]) ++ L.drop j := by
 unfold q1c at h
 split at h
 rotate_left
 ·cases h
 rename_i h32
 split at h
 ·rename_i h49
  cases h
  rw [q0f h32,q0f h49]
  rfl
 ·split at h
  ·rename_i h48
   cases h
   rw [q0f h32,q0f h48]
   rfl
  ·cases h
theorem q52 {kd n : Int} {nm tx : Bytes} {ex : Bool} {es : List T.qb} {ss : List T.Sel} (h : zi ⟨kd,nm,tx,n,ex,⟨es.isEmpty,es⟩,⟨ss.isEmpty,ss⟩⟩ = true) : Can ⟨kd,nm,tx,n,ex,⟨es.isEmpty,es⟩,⟨ss.isEmpty,ss⟩⟩ := ⟨h,rfl,rfl⟩
theorem z3o {L w : Bytes} {k m j : Nat} {o : T.Op} (hw : L.drop k = w ++ L.drop m) (h : uj w L m = some (o,j)) : L.drop k = qi o ++ L.drop j ∧ Can o := by
 unfold uj at h
 split at h
 ·rename_i e
  subst e
  unfold q5n at h
  split at h
  ·cases h
  rename_i a k1 h1
  split at h
  ·cases h
  rename_i t k2 h2
  cases h
  refine ⟨?_,q52 (es := []) (ss := []) (by simp [zi,xq,zb])⟩
  rw [hw,q8r h1,q8r h2]
  simp [qi]
 have txt : ∀ (kd : Int) (w0 : Bytes),w = w0 → (∀ t,qi ⟨kd,[],t,0,false,noE,noS⟩ = w0 ++ jo t) → (∀ t,zi ⟨kd,[],t,0,false,noE,noS⟩ = true) → q46 kd (jv L m) = some (o,j) → L.drop k = qi o ++ L.drop j ∧ Can o := by
  intro kd w0 e h1 h2 h
  subst e
  unfold q46 at h
  split at h
  ·cases h
  rename_i t j' hs
  cases h
  refine ⟨?_,q52 (es := []) (ss := []) (h2 t)⟩
  rw [hw,q8r hs,h1]
  simp
 have num : ∀ (kd : Int) (w0 : Bytes),w = w0 → (∀ n,qi ⟨kd,[],[],n,false,noE,noS⟩ = w0 ++ xg n) → (∀ n,zb n = true → zi ⟨kd,[],[],n,false,noE,noS⟩ = true) → q2t kd (j4 L m) = some (o,j) → L.drop k = qi o ++ L.drop j ∧ Can o := by
  intro kd w0 e h1 h2 h
  subst e
  unfold q2t at h
  split at h
  ·cases h
  rename_i n j' hs
  cases h
  obtain ⟨a1,a2⟩ := q4c hs
  refine ⟨?_,q52 (es := []) (ss := []) (h2 n a2)⟩
  rw [hw,a1,h1]
  simp
 split at h
 ·rename_i e
  exact txt 2 _ e (fun t => by simp [qi]) (fun t => by simp [zi,xq,zb,noE,noS]) h
 split at h
 ·rename_i e
  exact txt 7 _ e (fun t => by simp [qi]) (fun t => by simp [zi,xq,zb,noE,noS]) h
 split at h
 ·rename_i e
  exact num 3 _ e (fun t => by simp [qi]) (fun t ht => by simp [zi,xq,ht,noE,noS]) h
 split at h
 ·rename_i e
  exact num 11 _ e (fun t => by simp [qi]) (fun t ht => by simp [zi,xq,ht,noE,noS]) h
 split at h
 ·rename_i e
  subst e
  unfold q0o at h
  split at h
  ·cases h
  rename_i n k1 h1
  split at h
  ·cases h
  rename_i x k2 h2
  cases h
  obtain ⟨a1,a2⟩ := q4c h1
  have b1 := qs7 h2
  refine ⟨?_,q52 (es := []) (ss := []) (by simp [zi,xq,a2])⟩
  rw [hw,a1,b1]
  simp [qi]
 split at h
 ·rename_i e
  subst e
  unfold q5x at h
  split at h
  ·cases h
  rename_i es j' h1
  cases h
  obtain ⟨es',e1,e2,e3,e4⟩ := qcw _ _ _ _ _ h1
  simp only [List.nil_append] at e1
  subst e1
  refine ⟨?_,q52 (ss := []) (by simp [zi,xq,zb,e3])⟩
  rw [hw,e2]
  simp [qi]
 split at h
 ·rename_i e
  subst e
  unfold q61 at h
  split at h
  ·cases h
  rename_i es j' h1
  cases h
  obtain ⟨es',e1,e2,e3,e4⟩ := qic _ _ _ _ _ h1
  simp only [List.nil_append] at e1
  subst e1
  refine ⟨?_,q52 (es := []) (by simp [zi,xq,zb,e3])⟩
  rw [hw,e2]
  simp [qi]
 split at h
 ·rename_i hp
  cases h
  have key : ∀ (kd : Int),kd = mf w → qi ⟨kd,[],[],0,false,noE,noS⟩ = w → zi ⟨kd,[],[],0,false,noE,noS⟩ = true → L.drop k = qi ⟨mf w,[],[],0,false,noE,noS⟩ ++ L.drop m ∧ Can ⟨mf w,[],[],0,false,noE,noS⟩ := by
   intro kd e h1 h2
   subst e
   exact ⟨by rw [h1]; exact hw,q52 (es := []) (ss := []) h2⟩
  unfold mf at hp
  by_cases w1 : w = [110,101,120,116]
  ·exact key 8 (by rw [w1]; rfl) (by rw [w1]; rfl) (by decide)
  by_cases w2 : w = [112,114,101,118]
  ·exact key 9 (by rw [w2]; rfl) (by rw [w2]; rfl) (by decide)
  by_cases w3 : w = [108,101,97,118,101]
  ·exact key 10 (by rw [w3]; rfl) (by rw [w3]; rfl) (by decide)
  by_cases w4 : w = [117,110,100,111]
  ·exact key 12 (by rw [w4]; rfl) (by rw [w4]; rfl) (by decide)
  by_cases w5 : w = [114,101,100,111]
  ·exact key 13 (by rw [w5]; rfl) (by rw [w5]; rfl) (by decide)
  ·rw [if_neg w1,if_neg w2,if_neg w3,if_neg w4,if_neg w5] at hp
   exact absurd hp (by decide)
 ·cases h
theorem qkg {L : Bytes} {k j : Nat} {o : T.Op} (h : gu L k = some (o,j)) : L.drop k = qi o ++ 10 :: L.drop j ∧ Can o := by
 unfold gu ku at h
 split at h
 ·cases h
 rename_i o' j' hb
 split at h
 rotate_left
 ·cases h
 rename_i h10
 cases h
 obtain ⟨h1,h2⟩ := z3o (qcu L k) hb
 exact ⟨by rw [h1,q0f h10],h2⟩
end Go.Proofs.YtaglodpkpggdiaaGreatDoor
