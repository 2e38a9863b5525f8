/-
  Scripts: parts, texts, lists that are told are read as they were, and what reads so is told so.
-/
import Derived.Test.YtaglodpkpggdiaaGreatDoorLaw
import Derived.Test.YtaglodpkpggdiaaGreatDoorLax
set_option linter.unusedSimpArgs false
set_option linter.unusedVariables false
namespace Go.Proofs.YtaglodpkpggdiaaGreatDoor
open Go Go.Gm
theorem q47 (n : Int) : xw n = 32 :: iT n := rfl
theorem q5w (s : Bytes) : vw s = 32 :: (iT (s.length : Int) ++ 58 :: s) := by simp [vw,xw]
theorem q5k : jb 32 = false := by decide
theorem z1s : jb 58 = false := by decide
theorem q84 : jb 10 = false := by decide
theorem q3u {L R : Bytes} {k : Nat} {n : Int} (h : L.drop k = xw n ++ R) (hs : zo n = true) (hR : q1r R) : zu L k = some (n,k + (xw n).length) := by
 rw [q47,List.cons_append] at h
 unfold zu
 rw [if_pos (yw h)]
 have h2 : L.drop (k + 1) = iT n ++ R := by
  have := jd (X := [32]) (R := iT n ++ R) (by simpa using h)
  simpa using this
 rw [qhd h2 hs hR,q47,List.length_cons]
 congr 2
 omega
theorem z2c {n : Nat} (h : n < 1000000000000000000) : zo (n : Int) = true := by
 unfold zo
 simp
 omega
theorem q6y {L R : Bytes} {k : Nat} {s : Bytes} (h : L.drop k = vw s ++ R) (hs : s.length < 1000000000000000000) : j4 L k = some (s,k + (vw s).length) := by
 rw [q5w,List.cons_append] at h
 unfold j4
 rw [if_pos (yw h)]
 have h2 : L.drop (k + 1) = iT (s.length : Int) ++ (58 :: (s ++ R)) := by
  have := jd (X := [32]) (R := (iT (s.length : Int) ++ 58 :: s) ++ R) (by simpa using h)
  simpa using this
 have h3 := jd h2
 have h4 : L.drop (k + 1 + (iT (s.length : Int)).length + 1) = s ++ R := by
  have := jd (X := [58]) (R := s ++ R) (by simpa using h3)
  simpa using this
 have h5 : s.length ≤ L.length - (k + 1 + (iT (s.length : Int)).length + 1) := by
  have := congrArg List.length h4
  simp only [List.length_drop,List.length_append] at this
  omega
 have h6 := at_lt (yw h3)
 unfold wo
 rw [qhd h2 (z2c hs) (q0a z1s)]
 simp only
 rw [if_pos ⟨yw h3,by omega,by omega⟩,h4,q5w]
 simp only [Int.toNat_natCast,List.take_left,List.length_cons,List.length_append,Option.some.injEq,Prod.mk.injEq,true_and]
 omega
theorem qam {R : Bytes} {L : Bytes} {k : Nat} (h : L.drop k = R) (hR : ∀ c r,R = c :: r → c ≠ 32) : ¬ L[k]? = some 32 := by
 intro hh
 rw [x3b hh] at h
 exact hR 32 _ h.symm rfl
theorem qed {L R : Bytes} (hR : ∀ c r,R = c :: r → c ≠ 32) : ∀ (es : List T.qb) (f k : Nat) (acc : List T.qb),L.drop k = edB es ++ R → q23 es = true → (∀ e ∈ es,e.text.length < 1000000000000000000) → es.length < f →
  ui L f k acc = some (acc ++ es,k + (edB es).length)
 | [],0,_,_,_,_,_,hf => by simp at hf
 | [],f + 1,k,acc,h,ho,ht,hf => by
  unfold ui
  rw [if_neg (qam (by simpa [edB] using h) hR)]
  simp [edB]
 | e :: es,0,k,acc,h,ho,ht,hf => by simp at hf
 | e :: es,f + 1,k,acc,h,ho,ht,hf => by
  rw [q5s] at h ⊢
  rw [qbk] at ho
  simp only [Bool.and_eq_true] at ho
  obtain ⟨⟨o1,o2⟩,o3⟩ := ho
  simp only [List.append_assoc] at h
  have h1 := jd h
  have h2 := jd h1
  have h3 := jd h2
  unfold ui
  rw [if_pos (yw (by rw [h]; rfl)),q3u h o1 (q0a q5k)]
  simp only
  rw [q3u h1 o2 (by rw [q5w]; exact q0a q5k)]
  simp only
  rw [q6y h2 (ht e (by simp))]
  simp only
  rw [qed hR es f _ _ h3 o3 (fun x hx => ht x (by simp [hx])) (by simpa using hf)]
  simp only [List.append_assoc,List.cons_append,List.nil_append,List.length_append,Option.some.injEq,Prod.mk.injEq,true_and]
  omega
theorem ze7 {R : Bytes} (hR : q1r R) : ∀ l : List T.Sel,q1r (seB l ++ R)
 | [] => by simpa [seB] using hR
 | x :: l => by
  rw [q4d]
  exact q0a q5k
theorem qch {L R : Bytes} (hR : ∀ c r,R = c :: r → c ≠ 32) (hD : q1r R) : ∀ (ss : List T.Sel) (f k : Nat) (acc : List T.Sel),L.drop k = seB ss ++ R → q1y ss = true → ss.length < f →
  ug L f k acc = some (acc ++ ss,k + (seB ss).length)
 | [],0,_,_,_,_,hf => by simp at hf
 | [],f + 1,k,acc,h,ho,hf => by
  unfold ug
  rw [if_neg (qam (by simpa [seB] using h) hR)]
  simp [seB]
 | e :: es,0,k,acc,h,ho,hf => by simp at hf
 | e :: es,f + 1,k,acc,h,ho,hf => by
  rw [q4d] at h ⊢
  rw [qb0] at ho
  simp only [Bool.and_eq_true] at ho
  obtain ⟨⟨o1,o2⟩,o3⟩ := ho
  simp only [List.append_assoc] at h
  have h1 := jd h
  have h2 := jd h1
  unfold ug
  rw [if_pos (yw (by rw [h]; rfl)),q3u h o1 (q0a q5k)]
  simp only
  rw [q3u h1 o2 (ze7 hD es)]
  simp only
  rw [qch hR hD es f _ _ h2 o3 (by simpa using hf)]
  simp only [List.append_assoc,List.cons_append,List.nil_append,List.length_append,Option.some.injEq,Prod.mk.injEq,true_and]
  omega
theorem qmf {R : Bytes} (hR : q1r R) : ∀ l : List Int,q1r (nuB l ++ R)
 | [] => by simpa [nuB] using hR
 | x :: l => by
  rw [q55]
  exact q0a q5k
theorem z7g {n : Int} (h : inU n) : zo n = true := by
 obtain ⟨h1,h2⟩ := h
 unfold zo
 simp
 omega
theorem qh0 {L R : Bytes} (hR : ∀ c r,R = c :: r → c ≠ 32) (hD : q1r R) : ∀ (ns : List Int) (f k : Nat) (acc : List Int),L.drop k = nuB ns ++ R → (∀ n ∈ ns,inU n) → ns.length < f →
  q1i L f k acc = some (acc ++ ns,k + (nuB ns).length)
 | [],0,_,_,_,_,hf => by simp at hf
 | [],f + 1,k,acc,h,ho,hf => by
  unfold q1i
  rw [if_neg (qam (by simpa [nuB] using h) hR)]
  simp [nuB]
 | n :: ns,0,k,acc,h,ho,hf => by simp at hf
 | n :: ns,f + 1,k,acc,h,ho,hf => by
  rw [q55] at h ⊢
  have hn := ho n (by simp)
  have hn' : 0 ≤ n ∧ n ≤ 4294967295 := hn
  rw [List.append_assoc] at h
  have h1 := jd h
  unfold q1i
  rw [if_pos (yw (by rw [h]; rfl)),q3u h (z7g hn) (qmf hD ns)]
  simp only
  rw [if_pos ⟨hn'.1,by omega⟩,qh0 hR hD ns f _ _ h1 (fun x hx => ho x (by simp [hx])) (by simpa using hf)]
  simp only [List.append_assoc,List.cons_append,List.nil_append,List.length_append,Option.some.injEq,Prod.mk.injEq,true_and]
  omega
theorem qf0 {L w R : Bytes} {k : Nat} (h : L.drop k = w ++ R) (hw : ∀ c ∈ w,mq c = true) (hR : ∀ c r,R = c :: r → mq c = false) : jv L k = (w,k + w.length) := by
 unfold jv
 rw [h,q7v w R hw hR]
end Go.Proofs.YtaglodpkpggdiaaGreatDoor
