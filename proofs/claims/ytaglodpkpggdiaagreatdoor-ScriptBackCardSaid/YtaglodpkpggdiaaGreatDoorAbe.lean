/-
  Scripts: all lines, and what is read.
-/
import Derived.Test.YtaglodpkpggdiaaGreatDoorAba
import Derived.Test.YtaglodpkpggdiaaGreatDoorAbd
set_option linter.unusedSimpArgs false
set_option linter.unusedVariables false
namespace Go.Proofs.YtaglodpkpggdiaaGreatDoor
open Go Go.Gm
def q4j (line : Nat) (e : Int) : Rd := (⟨true,[]⟩,⟨true,[]⟩,(line : Int),e)
def q03 (L : Bytes) (nums : Sl Int) : Nat → Nat → List T.Op → Nat → Rd
 | 0,_,os,_ => (nums,⟨os.isEmpty,os⟩,0,0)
 | f + 1,k,os,line => if k < L.length then match gu L k with
   | none => q4j (line + 1) 10
   | some (o,j) => if os.length = 1000 then q4j (line + 1) 7 else q03 L nums f j (os ++ [o]) (line + 1)
  else (nums,⟨os.isEmpty,os⟩,0,0)
def q3g (L : Bytes) : Rd := if L.length > 65536 then q4j 0 4 else match ku L (q18 L) with
 | none => q4j 1 10
 | some (v,j) => q03 L ⟨v.isEmpty,v⟩ (L.length + 1) j [] 1
theorem qie (b : Sl UInt8) (hb : b.l.length ≤ 65536) (nums : Sl Int) : ∀ (f k : Nat) (os : List T.Op) (line : Nat),k ≤ b.l.length → b.l.length - k < f → os.length ≤ 1000 → line + (b.l.length - k) < 1000000 →
  (q13 (b,nums,(line : Int),PR b k true,os) >>= z4y nums) = some (q03 b.l nums f k os line)
 | 0,k,os,line,hk,hf,ho,hl => by omega
 | f + 1,k,os,line,hk,hf,ho,hl => by
  rw [q13.eq_1]
  unfold q03
  by_cases hkl : k < b.l.length
  ·rw [if_pos (show ((PR b k true).ok_ && decide ((PR b k true).place.at_ < (b.l.length : Int))) = true by simp [PR]; omega),if_pos hkl]
   obtain ⟨o,j,ok',e1,l1,p1,q1⟩ := pOp b k hb hk
   rw [e1]
   simp only [Option.bind_eq_bind,Option.bind_some]
   rw [if_pos (ny (by omega) (by omega))]
   cases hs : gu b.l k with
   | some x =>
    obtain ⟨o',j'⟩ := x
    have hok : ok' = true := q1 rfl (by rw [hs]; simp)
    subst hok
    have hx := (p1 rfl).2
    rw [hs] at hx
    cases hx
    have hlt := qey hs
    simp only
    rw [if_pos (show (PR b j true).ok_ = true from rfl)]
    by_cases h1000 : os.length = 1000
    ·rw [if_pos (by simp; omega),if_pos h1000,j6 (by omega)]
     rfl
    ·rw [if_neg (by simp; omega),if_neg h1000,j6 (by omega)]
     exact qie b hb nums f j (os ++ [o]) (line + 1) (by omega) (by omega) (by simp; omega) (by omega)
   | none =>
    have hok : ok' = false := by
     cases ok' with
     | false => rfl
     | true =>
      have := (p1 rfl).2
      rw [hs] at this
      cases this
    subst hok
    rw [if_neg (by simp [PR]),qhe,j6 (by omega)]
    rfl
  ·rw [if_neg (show ¬ ((PR b k true).ok_ && decide ((PR b k true).place.at_ < (b.l.length : Int))) = true by simp [PR]; omega),if_neg hkl]
   rfl
theorem qg8 (b : Sl UInt8) : q5q b = some (q3g b.l) := by
 unfold q5q q3g
 by_cases hb : (b.l.length : Int) > 65536
 ·rw [if_pos (by simpa using hb),if_pos (by omega)]
  rfl
 ·rw [if_neg (by simpa using hb),if_neg (by omega)]
  have hb' : b.l.length ≤ 65536 := by omega
  have hp0 : T.qc.mk (T.yw.mk b (0 : Int)) true = PR b 0 true := rfl
  rw [hp0]
  obtain ⟨v,j,ok',e1,l1,p1,q1⟩ := zor b hb'
  rw [e1]
  simp only [Option.bind_eq_bind,Option.bind_some]
  cases hs : ku b.l (q18 b.l) with
  | none =>
   have hok : ok' = false := by
    cases ok' with
    | false => rfl
    | true =>
     have := p1 rfl
     rw [hs] at this
     cases this
   subst hok
   rw [qhe]
   rfl
  | some x =>
   obtain ⟨v2,j2⟩ := x
   have hok : ok' = true := q1 (by rw [hs]; simp)
   subst hok
   have hx := p1 rfl
   rw [hs] at hx
   cases hx
   exact qie b hb' ⟨v.isEmpty,v⟩ (b.l.length + 1) j [] 1 l1 (by omega) (by simp) (by omega)
theorem qgp {L R : Bytes} {nums : Sl Int} : ∀ (ops : List T.Op) (g k : Nat) (os : List T.Op) (line : Nat),L.drop k = opB ops ++ R → (∀ o ∈ ops,Can o ∧ Texts o) → os.length + ops.length ≤ 1000 →
  q03 L nums (g + ops.length) k os line = q03 L nums g (k + (opB ops).length) (os ++ ops) (line + ops.length) ∧ L.drop (k + (opB ops).length) = R
 | [],g,k,os,line,h,hc,hl => by simpa [opB] using h
 | o :: ops,g,k,os,line,h,hc,hl => by
  rw [q58] at h ⊢
  simp only [List.length_cons] at hl ⊢
  have h' : L.drop k = qi o ++ 10 :: (opB ops ++ R) := by rw [h]; simp
  obtain ⟨c1,c2⟩ := hc o (by simp)
  obtain ⟨e1,e2⟩ := qpl c1 c2 h'
  have hk : k < L.length := by
   have := congrArg List.length h'
   simp only [List.length_drop,List.length_append,List.length_cons] at this
   omega
  obtain ⟨i1,i2⟩ := qgp (R := R) ops g (k + (qi o).length + 1) (os ++ [o]) (line + 1) e2 (fun x hx => hc x (by simp [hx])) (by simp; omega)
  have hlen : k + (qi o ++ [10] ++ opB ops).length = k + (qi o).length + 1 + (opB ops).length := by
   simp only [List.length_append,List.length_cons,List.length_nil]
   omega
  rw [hlen]
  refine ⟨?_,i2⟩
  rw [← Nat.add_assoc g]
  rw [q03,if_pos hk,e1]
  simp only
  rw [if_neg (by omega),i1,List.append_assoc,List.singleton_append]
  congr 1
  omega
theorem qjb {L R : Bytes} {ns : List Int} (h : L = (([100,105,99,101] ++ nuB ns) ++ [10]) ++ R) (hn : ∀ n ∈ ns,inU n) : ku L (q18 L) = some (ns,4 + (nuB ns).length + 1) ∧ L.drop (4 + (nuB ns).length + 1) = R := by
 have h0 : L.drop 0 = [100,105,99,101] ++ (nuB ns ++ 10 :: R) := by rw [h]; simp
 have hw : wm L 0 = ([100,105,99,101],4) := by
  rw [qe4 h0 (by decide) (fun c r e => ?_)]
  ·rfl
  ·cases ns with
   | nil => cases e; decide
   | cons n ns => rw [q36,mg] at e; cases e; decide
 have h4 := ja h0
 have h5 := ja h4
 have h6 : L.drop (4 + (nuB ns).length + 1) = R := by
  have := ja (X := [10]) (R := R) (by simpa using h5)
  simpa using this
 refine ⟨?_,h6⟩
 unfold q18
 rw [hw]
 simp only
 have hlen : ns.length < L.length + 1 := by
  have h7 := qb6 h4
  have : ∀ l : List Int,l.length ≤ (nuB l).length := by
   intro l
   induction l with
   | nil => simp
   | cons n l ih =>
    rw [q36,mg]
    simp only [List.length_append,List.length_cons]
    omega
  have := this ns
  omega
 rw [if_pos trivial,qfk qc7 (q0v q8d) ns (L.length + 1) 4 [] (by simpa using h4) hn hlen]
 have h8 : L.drop (4 + (nuB ns).length) = 10 :: R := by simpa using h5
 rw [qch rfl h8]
 simp
theorem qi4 : ∀ l : List T.Op,l.length ≤ (opB l).length
 | [] => by simp
 | o :: l => by
  have := qi4 l
  rw [q58]
  simp only [List.length_append,List.length_cons,List.length_nil]
  omega
theorem q7r (ns : List Int) (os : List T.Op) : (jc ns os).length = 4 + (nuB ns).length + 1 + (opB os).length := by
 unfold jc
 simp only [List.length_append,List.length_cons,List.length_nil]
theorem zze {ns : List Int} {os : List T.Op} (R : Bytes) (hn : ∀ n ∈ ns,inU n) (ho : ∀ o ∈ os,Can o ∧ Texts o) (hl : os.length ≤ 1000) (hs : (jc ns os ++ R).length ≤ 65536) :
  ∃ g,R.length < g ∧ q3g (jc ns os ++ R) = q03 (jc ns os ++ R) ⟨ns.isEmpty,ns⟩ g (jc ns os).length os (1 + os.length) ∧ (jc ns os ++ R).drop (jc ns os).length = R := by
 unfold q3g
 rw [if_neg (by omega)]
 obtain ⟨d1,d2⟩ := qjb (L := jc ns os ++ R) (R := opB os ++ R) (ns := ns) (by unfold jc; simp) hn
 rw [d1]
 simp only
 have hlen : (jc ns os ++ R).length + 1 = (4 + (nuB ns).length + 1 + ((opB os).length - os.length) + R.length + 1) + os.length := by
  have := qi4 os
  rw [List.length_append,q7r]
  omega
 obtain ⟨l1,l2⟩ := qgp (nums := ⟨ns.isEmpty,ns⟩) os (4 + (nuB ns).length + 1 + ((opB os).length - os.length) + R.length + 1) _ [] 1 d2 ho (by simpa using hl)
 refine ⟨4 + (nuB ns).length + 1 + ((opB os).length - os.length) + R.length + 1,by omega, ?_,by simp⟩
 rw [hlen,l1,q7r,List.nil_append]
theorem qr3 {ns : List Int} {os : List T.Op} (hn : ∀ n ∈ ns,inU n) (ho : ∀ o ∈ os,Can o ∧ Texts o) (hl : os.length ≤ 1000) (hs : (jc ns os).length ≤ 65536) : q3g (jc ns os) = (⟨ns.isEmpty,ns⟩,⟨os.isEmpty,os⟩,0,0) := by
 obtain ⟨g,g1,g2,g3⟩ := zze [] hn ho hl (by simpa using hs)
 rw [List.append_nil] at g2
 rw [g2]
 cases g with
 | zero => simp at g1
 | succ g => rw [q03,if_neg (by omega)]
theorem qgv {L : Bytes} {nums : Sl Int} : ∀ (f k : Nat) (os : List T.Op) (line : Nat),L.length - k < f → k ≤ L.length → os.length ≤ 1000 →
  (∃ ops,q03 L nums f k os line = (nums,⟨(os ++ ops).isEmpty,os ++ ops⟩,0,0) ∧ L.drop k = opB ops ∧ (∀ o ∈ ops,Can o) ∧ os.length + ops.length ≤ 1000) ∨
  (∃ (ln : Nat) (e : Int),q03 L nums f k os line = q4j ln e ∧ 1 ≤ ln ∧ e ≠ 0)
 | 0,k,os,line,hf,hk,hl => by omega
 | f + 1,k,os,line,hf,hk,hl => by
  rw [q03]
  by_cases hkl : k < L.length
  ·rw [if_pos hkl]
   cases hs : gu L k with
   | none => exact .inr ⟨_,_,rfl,by omega,by decide⟩
   | some x =>
    obtain ⟨o,j⟩ := x
    simp only
    by_cases h1000 : os.length = 1000
    ·rw [if_pos h1000]
     exact .inr ⟨_,_,rfl,by omega,by decide⟩
    ·rw [if_neg h1000]
     obtain ⟨e1,e2⟩ := qkg hs
     have hlt := qey hs
     have hj : j ≤ L.length := by
      unfold gu ku at hs
      split at hs
      ·cases hs
      split at hs
      ·rename_i h10
       cases hs
       have := at_lt h10
       omega
      ·cases hs
     rcases qgv (nums := nums) f j (os ++ [o]) (line + 1) (by omega) hj (by simp; omega) with ⟨ops,a1,a2,a3,a4⟩ | h
     ·refine .inl ⟨o :: ops, ?_, ?_, ?_, ?_⟩
      ·rw [a1,List.append_assoc,List.singleton_append]
      ·rw [e1,a2,q58]
       simp
      ·intro x hx
       rcases List.mem_cons.1 hx with rfl | hx
       ·exact e2
       ·exact a3 x hx
      ·simp at a4 ⊢
       omega
     ·exact .inr h
  ·rw [if_neg hkl]
   refine .inl ⟨[],by simp, ?_,by simp,by simpa using hl⟩
   rw [List.drop_eq_nil_of_le (by omega)]
   rfl
theorem z0f {L : Bytes} {v : List Int} {j : Nat} (h : ku L (q18 L) = some (v,j)) : L = (([100,105,99,101] ++ nuB v) ++ [10]) ++ L.drop j ∧ (∀ n ∈ v,inU n) ∧ j ≤ L.length := by
 unfold ku at h
 split at h
 ·cases h
 rename_i v' j' hd
 split at h
 rotate_left
 ·cases h
 rename_i h10
 cases h
 unfold q18 at hd
 split at hd
 rotate_left
 ·cases hd
 rename_i hw
 obtain ⟨ns,a1,a2,a3,a4⟩ := qdp _ _ _ _ _ hd
 simp only [List.nil_append] at a1
 subst a1
 have h0 := qcu L 0
 rw [hw,a2,q0f h10] at h0
 refine ⟨?_,a3,at_lt h10⟩
 simpa using h0
theorem qwq (L : Bytes) (hL : L.length ≤ 65536) :
  (∃ ns os,q3g L = (⟨ns.isEmpty,ns⟩,⟨os.isEmpty,os⟩,0,0) ∧ L = jc ns os ∧ (∀ n ∈ ns,inU n) ∧ (∀ o ∈ os,Can o) ∧ os.length ≤ 1000) ∨
  (∃ (ln : Nat) (e : Int),q3g L = q4j ln e ∧ 1 ≤ ln ∧ e ≠ 0) := by
 unfold q3g
 rw [if_neg (by omega)]
 cases hd : ku L (q18 L) with
 | none => exact .inr ⟨1,10,rfl,by omega,by decide⟩
 | some x =>
  obtain ⟨v,j⟩ := x
  obtain ⟨d1,d2,d3⟩ := z0f hd
  simp only
  rcases qgv (L := L) (nums := ⟨v.isEmpty,v⟩) (L.length + 1) j [] 1 (by omega) d3 (by simp) with ⟨ops,a1,a2,a3,a4⟩ | h
  ·refine .inl ⟨v,ops,by rw [a1]; simp, ?_,d2,a3,by simpa using a4⟩
   unfold jc
   rw [← a2]
   exact d1
  ·exact .inr h
end Go.Proofs.YtaglodpkpggdiaaGreatDoor
