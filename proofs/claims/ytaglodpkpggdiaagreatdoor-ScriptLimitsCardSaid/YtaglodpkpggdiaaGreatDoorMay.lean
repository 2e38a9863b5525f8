/-
  Scripts: parts, texts, lists that are told are read as they were, and what reads so is told so.
-/
import Derived.Test.YtaglodpkpggdiaaGreatDoorMaw
import Derived.Test.YtaglodpkpggdiaaGreatDoorMax
set_option linter.unusedSimpArgs false
set_option linter.unusedVariables false
namespace Go.Proofs.YtaglodpkpggdiaaGreatDoor
open Go Go.Gm
theorem q4o (n : Int) : xm n = 32 :: iT n := rfl
theorem q45 (s : Bytes) : kz s = 32 :: (iT (s.length : Int) ++ 58 :: s) := by simp [kz,xm]
theorem q5w : j5 32 = false := by decide
theorem qtx : j5 58 = false := by decide
theorem q7f : j5 10 = false := by decide
theorem q2r {L R : Bytes} {k : Nat} {n : Int} (h : L.drop k = xm n ++ R) (hs : xc n = true) (hR : q1l R) : j4 L k = some (n,k + (xm n).length) := by
 rw [q4o,List.cons_append] at h
 unfold j4
 rw [if_pos (yj h)]
 have h2 : L.drop (k + 1) = iT n ++ R := by
  have := xz (X := [32]) (R := iT n ++ R) (by simpa using h)
  simpa using this
 rw [qe6 h2 hs hR,q4o,List.length_cons]
 congr 2
 omega
theorem qus {n : Nat} (h : n < 1000000000000000000) : xc (n : Int) = true := by
 unfold xc
 simp
 omega
theorem q6p {L R : Bytes} {k : Nat} {s : Bytes} (h : L.drop k = kz s ++ R) (hs : s.length < 1000000000000000000) : wy L k = some (s,k + (kz s).length) := by
 rw [q45,List.cons_append] at h
 unfold wy
 rw [if_pos (yj h)]
 have h2 : L.drop (k + 1) = iT (s.length : Int) ++ (58 :: (s ++ R)) := by
  have := xz (X := [32]) (R := (iT (s.length : Int) ++ 58 :: s) ++ R) (by simpa using h)
  simpa using this
 have h3 := xz h2
 have h4 : L.drop (k + 1 + (iT (s.length : Int)).length + 1) = s ++ R := by
  have := xz (X := [58]) (R := s ++ R) (by simpa using h3)
  simpa using this
 have h5 : s.length ≤ L.length - (k + 1 + (iT (s.length : Int)).length + 1) := by
  have := congrArg List.length h4
  simp only [List.length_drop,List.length_append] at this
  omega
 have h6 := at_lt (yj h3)
 unfold yz
 rw [qe6 h2 (qus hs) (q07 qtx)]
 simp only
 rw [if_pos ⟨yj h3,by omega,by omega⟩,h4,q45]
 simp only [Int.toNat_natCast,List.take_left,List.length_cons,List.length_append,Option.some.injEq,Prod.mk.injEq,true_and]
 omega
theorem q9q {R : Bytes} {L : Bytes} {k : Nat} (h : L.drop k = R) (hR : ∀ c r,R = c :: r → c ≠ 32) : ¬ L[k]? = some 32 := by
 intro hh
 rw [qws hh] at h
 exact hR 32 _ h.symm rfl
theorem qfz {L R : Bytes} (hR : ∀ c r,R = c :: r → c ≠ 32) : ∀ (es : List T.qd) (f k : Nat) (acc : List T.qd),L.drop k = edB es ++ R → q3s es = true → (∀ e ∈ es,e.text.length < 1000000000000000000) → es.length < f →
  q05 L f k acc = some (acc ++ es,k + (edB es).length)
 | [],0,_,_,_,_,_,hf => by simp at hf
 | [],f + 1,k,acc,h,ho,ht,hf => by
  unfold q05
  rw [if_neg (q9q (by simpa [edB] using h) hR)]
  simp [edB]
 | e :: es,0,k,acc,h,ho,ht,hf => by simp at hf
 | e :: es,f + 1,k,acc,h,ho,ht,hf => by
  rw [q72] at h ⊢
  rw [qd7] at ho
  simp only [Bool.and_eq_true] at ho
  obtain ⟨⟨o1,o2⟩,o3⟩ := ho
  simp only [List.append_assoc] at h
  have h1 := xz h
  have h2 := xz h1
  have h3 := xz h2
  unfold q05
  rw [if_pos (yj (by rw [h]; rfl)),q2r h o1 (q07 q5w)]
  simp only
  rw [q2r h1 o2 (by rw [q45]; exact q07 q5w)]
  simp only
  rw [q6p h2 (ht e (by simp))]
  simp only
  rw [qfz hR es f _ _ h3 o3 (fun x hx => ht x (by simp [hx])) (by simpa using hf)]
  simp only [List.append_assoc,List.cons_append,List.nil_append,List.length_append,Option.some.injEq,Prod.mk.injEq,true_and]
  omega
theorem qnp {R : Bytes} (hR : q1l R) : ∀ l : List T.Sel,q1l (seB l ++ R)
 | [] => by simpa [seB] using hR
 | x :: l => by
  rw [q54]
  exact q07 q5w
theorem qe7 {L R : Bytes} (hR : ∀ c r,R = c :: r → c ≠ 32) (hD : q1l R) : ∀ (ss : List T.Sel) (f k : Nat) (acc : List T.Sel),L.drop k = seB ss ++ R → q4f ss = true → ss.length < f →
  pq L f k acc = some (acc ++ ss,k + (seB ss).length)
 | [],0,_,_,_,_,hf => by simp at hf
 | [],f + 1,k,acc,h,ho,hf => by
  unfold pq
  rw [if_neg (q9q (by simpa [seB] using h) hR)]
  simp [seB]
 | e :: es,0,k,acc,h,ho,hf => by simp at hf
 | e :: es,f + 1,k,acc,h,ho,hf => by
  rw [q54] at h ⊢
  rw [qfa] at ho
  simp only [Bool.and_eq_true] at ho
  obtain ⟨⟨o1,o2⟩,o3⟩ := ho
  simp only [List.append_assoc] at h
  have h1 := xz h
  have h2 := xz h1
  unfold pq
  rw [if_pos (yj (by rw [h]; rfl)),q2r h o1 (q07 q5w)]
  simp only
  rw [q2r h1 o2 (qnp hD es)]
  simp only
  rw [qe7 hR hD es f _ _ h2 o3 (by simpa using hf)]
  simp only [List.append_assoc,List.cons_append,List.nil_append,List.length_append,Option.some.injEq,Prod.mk.injEq,true_and]
  omega
theorem zsk {R : Bytes} (hR : q1l R) : ∀ l : List Int,q1l (nuB l ++ R)
 | [] => by simpa [nuB] using hR
 | x :: l => by
  rw [q5m]
  exact q07 q5w
theorem x1d {n : Int} (h : inU n) : xc n = true := by
 obtain ⟨h1,h2⟩ := h
 unfold xc
 simp
 omega
theorem qdq {L R : Bytes} (hR : ∀ c r,R = c :: r → c ≠ 32) (hD : q1l R) : ∀ (ns : List Int) (f k : Nat) (acc : List Int),L.drop k = nuB ns ++ R → (∀ n ∈ ns,inU n) → ns.length < f →
  q0u L f k acc = some (acc ++ ns,k + (nuB ns).length)
 | [],0,_,_,_,_,hf => by simp at hf
 | [],f + 1,k,acc,h,ho,hf => by
  unfold q0u
  rw [if_neg (q9q (by simpa [nuB] using h) hR)]
  simp [nuB]
 | n :: ns,0,k,acc,h,ho,hf => by simp at hf
 | n :: ns,f + 1,k,acc,h,ho,hf => by
  rw [q5m] at h ⊢
  have hn := ho n (by simp)
  have hn' : 0 ≤ n ∧ n ≤ 4294967295 := hn
  rw [List.append_assoc] at h
  have h1 := xz h
  unfold q0u
  rw [if_pos (yj (by rw [h]; rfl)),q2r h (x1d hn) (zsk hD ns)]
  simp only
  rw [if_pos ⟨hn'.1,by omega⟩,qdq hR hD ns f _ _ h1 (fun x hx => ho x (by simp [hx])) (by simpa using hf)]
  simp only [List.append_assoc,List.cons_append,List.nil_append,List.length_append,Option.some.injEq,Prod.mk.injEq,true_and]
  omega
theorem qch {L w R : Bytes} {k : Nat} (h : L.drop k = w ++ R) (hw : ∀ c ∈ w,bn c = true) (hR : ∀ c r,R = c :: r → bn c = false) : yg L k = (w,k + w.length) := by
 unfold yg
 rw [h,q8p w R hw hR]
end Go.Proofs.YtaglodpkpggdiaaGreatDoor
