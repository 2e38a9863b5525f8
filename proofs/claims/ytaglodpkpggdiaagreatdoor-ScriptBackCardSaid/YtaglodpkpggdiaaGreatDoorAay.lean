/-
  Scripts: parts, texts, lists that are told are read as they were, and what reads so is told so.
-/
import Derived.Test.YtaglodpkpggdiaaGreatDoorAaw
import Derived.Test.YtaglodpkpggdiaaGreatDoorAax
set_option linter.unusedSimpArgs false
set_option linter.unusedVariables false
namespace Go.Proofs.YtaglodpkpggdiaaGreatDoor
open Go Go.Gm
theorem mg (n : Int) : xg n = 32 :: iT n := rfl
theorem q28 (s : Bytes) : jo s = 32 :: (iT (s.length : Int) ++ 58 :: s) := by simp [jo,xg]
theorem q63 : zy 32 = false := by decide
theorem zr8 : zy 58 = false := by decide
theorem q8d : zy 10 = false := by decide
theorem q3p {L R : Bytes} {k : Nat} {n : Int} (h : L.drop k = xg n ++ R) (hs : zb n = true) (hR : q1v R) : j4 L k = some (n,k + (xg n).length) := by
 rw [mg,List.cons_append] at h
 unfold j4
 rw [if_pos (vw h)]
 have h2 : L.drop (k + 1) = iT n ++ R := by
  have := ja (X := [32]) (R := iT n ++ R) (by simpa using h)
  simpa using this
 rw [qdj h2 hs hR,mg,List.length_cons]
 congr 2
 omega
theorem q4c {L : Bytes} {k j : Nat} {n : Int} (h : j4 L k = some (n,j)) : L.drop k = xg n ++ L.drop j ∧ zb n = true := by
 unfold j4 at h
 split at h
 ·rename_i h32
  obtain ⟨h1,h2⟩ := qgh h
  rw [q0f h32,h1,mg]
  exact ⟨rfl,h2⟩
 ·cases h
theorem zmy {n : Nat} (h : n < 1000000000000000000) : zb (n : Int) = true := by
 unfold zb
 simp
 omega
theorem q6v {L R : Bytes} {k : Nat} {s : Bytes} (h : L.drop k = jo s ++ R) (hs : s.length < 1000000000000000000) : jv L k = some (s,k + (jo s).length) := by
 rw [q28,List.cons_append] at h
 unfold jv
 rw [if_pos (vw h)]
 have h2 : L.drop (k + 1) = iT (s.length : Int) ++ (58 :: (s ++ R)) := by
  have := ja (X := [32]) (R := (iT (s.length : Int) ++ 58 :: s) ++ R) (by simpa using h)
  simpa using this
 have h3 := ja h2
 have h4 : L.drop (k + 1 + (iT (s.length : Int)).length + 1) = s ++ R := by
  have := ja (X := [58]) (R := s ++ R) (by simpa using h3)
  simpa using this
 have h5 : s.length ≤ L.length - (k + 1 + (iT (s.length : Int)).length + 1) := by
  have := congrArg List.length h4
  simp only [List.length_drop,List.length_append] at this
  omega
 have h6 := at_lt (vw h3)
 unfold yu
 rw [qdj h2 (zmy hs) (q0v zr8)]
 simp only
 rw [if_pos ⟨vw h3,by omega,by omega⟩,h4,q28]
 simp only [Int.toNat_natCast,List.take_left,List.length_cons,List.length_append,Option.some.injEq,Prod.mk.injEq,true_and]
 omega
theorem q8r {L : Bytes} {k j : Nat} {s : Bytes} (h : jv L k = some (s,j)) : L.drop k = jo s ++ L.drop j := by
 unfold jv at h
 split at h
 rotate_left
 ·cases h
 rename_i h32
 unfold yu at h
 split at h
 ·cases h
 rename_i n i hn
 split at h
 rotate_left
 ·cases h
 rename_i hc
 obtain ⟨c1,c2,c3⟩ := hc
 simp only [Option.some.injEq,Prod.mk.injEq] at h
 obtain ⟨rfl,rfl⟩ := h
 obtain ⟨h1,h2⟩ := qgh hn
 have hl := at_lt c1
 have e1 : (((L.drop (i + 1)).take n.toNat).length : Int) = n := by
  rw [List.length_take,List.length_drop]
  omega
 rw [q28,e1,q0f h32,h1,q0f c1]
 simp only [List.cons_append,List.append_assoc,List.cons.injEq,true_and]
 congr 2
 have : L.drop (i + 1) = (L.drop (i + 1)).take n.toNat ++ (L.drop (i + 1)).drop n.toNat := (List.take_append_drop _ _).symm
 rw [List.drop_drop] at this
 exact this
theorem qa9 {R : Bytes} {L : Bytes} {k : Nat} (h : L.drop k = R) (hR : ∀ c r,R = c :: r → c ≠ 32) : ¬ L[k]? = some 32 := by
 intro hh
 rw [q0f hh] at h
 exact hR 32 _ h.symm rfl
theorem qfg {L R : Bytes} (hR : ∀ c r,R = c :: r → c ≠ 32) : ∀ (es : List T.qb) (f k : Nat) (acc : List T.qb),L.drop k = edB es ++ R → q1o es = true → (∀ e ∈ es,e.text.length < 1000000000000000000) → es.length < f →
  bn L f k acc = some (acc ++ es,k + (edB es).length)
 | [],0,_,_,_,_,_,hf => by simp at hf
 | [],f + 1,k,acc,h,ho,ht,hf => by
  unfold bn
  rw [if_neg (qa9 (by simpa [edB] using h) hR)]
  simp [edB]
 | e :: es,0,k,acc,h,ho,ht,hf => by simp at hf
 | e :: es,f + 1,k,acc,h,ho,ht,hf => by
  rw [q3o] at h ⊢
  rw [q8n] at ho
  simp only [Bool.and_eq_true] at ho
  obtain ⟨⟨o1,o2⟩,o3⟩ := ho
  simp only [List.append_assoc] at h
  have h1 := ja h
  have h2 := ja h1
  have h3 := ja h2
  unfold bn
  rw [if_pos (vw (by rw [h]; rfl)),q3p h o1 (q0v q63)]
  simp only
  rw [q3p h1 o2 (by rw [q28]; exact q0v q63)]
  simp only
  rw [q6v h2 (ht e (by simp))]
  simp only
  rw [qfg hR es f _ _ h3 o3 (fun x hx => ht x (by simp [hx])) (by simpa using hf)]
  simp only [List.append_assoc,List.cons_append,List.nil_append,List.length_append,Option.some.injEq,Prod.mk.injEq,true_and]
  omega
theorem qcw {L : Bytes} : ∀ (f k : Nat) (acc v : List T.qb) (j : Nat),bn L f k acc = some (v,j) → ∃ es,v = acc ++ es ∧ L.drop k = edB es ++ L.drop j ∧ q1o es = true ∧ ¬ L[j]? = some 32
 | 0,k,acc,v,j,h => by cases h
 | f + 1,k,acc,v,j,h => by
  unfold bn at h
  split at h
  ·split at h
   ·cases h
   rename_i a k1 h1
   split at h
   ·cases h
   rename_i c k2 h2
   split at h
   ·cases h
   rename_i t k3 h3
   obtain ⟨es,e1,e2,e3,e4⟩ := qcw f k3 _ v j h
   obtain ⟨a1,a2⟩ := q4c h1
   obtain ⟨b1,b2⟩ := q4c h2
   have c1 := q8r h3
   refine ⟨⟨⟨a,c⟩,t⟩ :: es,by rw [e1]; simp, ?_, ?_,e4⟩
   ·rw [q3o,a1,b1,c1,e2]
    simp
   ·rw [q8n]
    simp [a2,b2,e3]
  ·rename_i hn
   cases h
   exact ⟨[],by simp,by simp [edB],rfl,hn⟩
theorem zwc {R : Bytes} (hR : q1v R) : ∀ l : List T.Sel,q1v (seB l ++ R)
 | [] => by simpa [seB] using hR
 | x :: l => by
  rw [q2l]
  exact q0v q63
theorem qfd {L R : Bytes} (hR : ∀ c r,R = c :: r → c ≠ 32) (hD : q1v R) : ∀ (ss : List T.Sel) (f k : Nat) (acc : List T.Sel),L.drop k = seB ss ++ R → q15 ss = true → ss.length < f →
  gq L f k acc = some (acc ++ ss,k + (seB ss).length)
 | [],0,_,_,_,_,hf => by simp at hf
 | [],f + 1,k,acc,h,ho,hf => by
  unfold gq
  rw [if_neg (qa9 (by simpa [seB] using h) hR)]
  simp [seB]
 | e :: es,0,k,acc,h,ho,hf => by simp at hf
 | e :: es,f + 1,k,acc,h,ho,hf => by
  rw [q2l] at h ⊢
  rw [q8x] at ho
  simp only [Bool.and_eq_true] at ho
  obtain ⟨⟨o1,o2⟩,o3⟩ := ho
  simp only [List.append_assoc] at h
  have h1 := ja h
  have h2 := ja h1
  unfold gq
  rw [if_pos (vw (by rw [h]; rfl)),q3p h o1 (q0v q63)]
  simp only
  rw [q3p h1 o2 (zwc hD es)]
  simp only
  rw [qfd hR hD es f _ _ h2 o3 (by simpa using hf)]
  simp only [List.append_assoc,List.cons_append,List.nil_append,List.length_append,Option.some.injEq,Prod.mk.injEq,true_and]
  omega
theorem qic {L : Bytes} : ∀ (f k : Nat) (acc v : List T.Sel) (j : Nat),gq L f k acc = some (v,j) → ∃ es,v = acc ++ es ∧ L.drop k = seB es ++ L.drop j ∧ q15 es = true ∧ ¬ L[j]? = some 32
 | 0,k,acc,v,j,h => by cases h
 | f + 1,k,acc,v,j,h => by
  unfold gq at h
  split at h
  ·split at h
   ·cases h
   rename_i a k1 h1
   split at h
   ·cases h
   rename_i c k2 h2
   obtain ⟨es,e1,e2,e3,e4⟩ := qic f k2 _ v j h
   obtain ⟨a1,a2⟩ := q4c h1
   obtain ⟨b1,b2⟩ := q4c h2
   refine ⟨⟨a,c⟩ :: es,by rw [e1]; simp, ?_, ?_,e4⟩
   ·rw [q2l,a1,b1,e2]
    simp
   ·rw [q8x]
    simp [a2,b2,e3]
  ·rename_i hn
   cases h
   exact ⟨[],by simp,by simp [seB],rfl,hn⟩
theorem zxp {R : Bytes} (hR : q1v R) : ∀ l : List Int,q1v (nuB l ++ R)
 | [] => by simpa [nuB] using hR
 | x :: l => by
  rw [q36]
  exact q0v q63
theorem qne {n : Int} (h : inU n) : zb n = true := by
 obtain ⟨h1,h2⟩ := h
 unfold zb
 simp
 omega
theorem qfk {L R : Bytes} (hR : ∀ c r,R = c :: r → c ≠ 32) (hD : q1v R) : ∀ (ns : List Int) (f k : Nat) (acc : List Int),L.drop k = nuB ns ++ R → (∀ n ∈ ns,inU n) → ns.length < f →
  tu L f k acc = some (acc ++ ns,k + (nuB ns).length)
 | [],0,_,_,_,_,hf => by simp at hf
 | [],f + 1,k,acc,h,ho,hf => by
  unfold tu
  rw [if_neg (qa9 (by simpa [nuB] using h) hR)]
  simp [nuB]
 | n :: ns,0,k,acc,h,ho,hf => by simp at hf
 | n :: ns,f + 1,k,acc,h,ho,hf => by
  rw [q36] at h ⊢
  have hn := ho n (by simp)
  have hn' : 0 ≤ n ∧ n ≤ 4294967295 := hn
  rw [List.append_assoc] at h
  have h1 := ja h
  unfold tu
  rw [if_pos (vw (by rw [h]; rfl)),q3p h (qne hn) (zxp hD ns)]
  simp only
  rw [if_pos ⟨hn'.1,by omega⟩,qfk hR hD ns f _ _ h1 (fun x hx => ho x (by simp [hx])) (by simpa using hf)]
  simp only [List.append_assoc,List.cons_append,List.nil_append,List.length_append,Option.some.injEq,Prod.mk.injEq,true_and]
  omega
theorem qdp {L : Bytes} : ∀ (f k : Nat) (acc v : List Int) (j : Nat),tu L f k acc = some (v,j) → ∃ ns,v = acc ++ ns ∧ L.drop k = nuB ns ++ L.drop j ∧ (∀ n ∈ ns,inU n) ∧ ¬ L[j]? = some 32
 | 0,k,acc,v,j,h => by cases h
 | f + 1,k,acc,v,j,h => by
  unfold tu at h
  split at h
  ·split at h
   ·cases h
   rename_i n k1 h1
   split at h
   rotate_left
   ·cases h
   rename_i hn
   obtain ⟨ns,e1,e2,e3,e4⟩ := qdp f k1 _ v j h
   obtain ⟨a1,a2⟩ := q4c h1
   refine ⟨n :: ns,by rw [e1]; simp, ?_,fun x hx => ?_,e4⟩
   ·rw [q36,a1,e2]
    simp
   ·rcases List.mem_cons.1 hx with rfl | hx
    ·exact ⟨hn.1,by omega⟩
    ·exact e3 x hx
  ·rename_i hn
   cases h
   exact ⟨[],by simp,by simp [nuB],by simp,hn⟩
theorem qe4 {L w R : Bytes} {k : Nat} (h : L.drop k = w ++ R) (hw : ∀ c ∈ w,uz c = true) (hR : ∀ c r,R = c :: r → uz c = false) : wm L k = (w,k + w.length) := by
 unfold wm
 rw [h,q9b w R hw hR]
theorem qcu (L : Bytes) (k : Nat) : L.drop k = (wm L k).1 ++ L.drop (wm L k).2 := by
 have h1 : L.drop k = (L.drop k).takeWhile uz ++ (L.drop k).dropWhile uz := List.takeWhile_append_dropWhile.symm
 have h2 := ja h1
 unfold wm
 simp only
 rw [h2]
 exact h1
end Go.Proofs.YtaglodpkpggdiaaGreatDoor
