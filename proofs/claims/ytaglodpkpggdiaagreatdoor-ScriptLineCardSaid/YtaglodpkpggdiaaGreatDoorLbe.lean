/-
  Scripts: all lines, and what is read.
-/
import Derived.Test.YtaglodpkpggdiaaGreatDoorLba
import Derived.Test.YtaglodpkpggdiaaGreatDoorLbd
set_option linter.unusedSimpArgs false
set_option linter.unusedVariables false
namespace Go.Proofs.YtaglodpkpggdiaaGreatDoor
open Go Go.Gm
def q5i (line : Nat) (e : Int) : Rd := (⟨true,[]⟩,⟨true,[]⟩,(line : Int),e)
def q1l (L : Bytes) (nums : Sl Int) : Nat → Nat → List T.Op → Nat → Rd
 | 0,_,os,_ => (nums,⟨os.isEmpty,os⟩,0,0)
 | f + 1,k,os,line => if k < L.length then match uz L k with
   | none => q5i (line + 1) 10
   | some (o,j) => if os.length = 1000 then q5i (line + 1) 7 else q1l L nums f j (os ++ [o]) (line + 1)
  else (nums,⟨os.isEmpty,os⟩,0,0)
def q76 (L : Bytes) : Rd := if L.length > 65536 then q5i 0 4 else match yg L (q4f L) with
 | none => q5i 1 10
 | some (v,j) => q1l L ⟨v.isEmpty,v⟩ (L.length + 1) j [] 1
theorem qfm (b : Sl UInt8) (hb : b.l.length ≤ 65536) (nums : Sl Int) : ∀ (f k : Nat) (os : List T.Op) (line : Nat),k ≤ b.l.length → b.l.length - k < f → os.length ≤ 1000 → line + (b.l.length - k) < 1000000 →
  (q1k (b,nums,(line : Int),PR b k true,os) >>= zlr nums) = some (q1l b.l nums f k os line)
 | 0,k,os,line,hk,hf,ho,hl => by omega
 | f + 1,k,os,line,hk,hf,ho,hl => by
  rw [q1k.eq_1]
  unfold q1l
  by_cases hkl : k < b.l.length
  ·rw [if_pos (show ((PR b k true).ok_ && decide ((PR b k true).place.at_ < (b.l.length : Int))) = true by simp [PR]; omega),if_pos hkl]
   obtain ⟨o,j,ok',e1,l1,p1,q1⟩ := pOp b k hb hk
   rw [e1]
   simp only [Option.bind_eq_bind,Option.bind_some]
   rw [if_pos (ni (by omega) (by omega))]
   cases hs : uz b.l k with
   | some x =>
    obtain ⟨o',j'⟩ := x
    have hok : ok' = true := q1 rfl (by rw [hs]; simp)
    subst hok
    have hx := (p1 rfl).2
    rw [hs] at hx
    cases hx
    have hlt := qio hs
    simp only
    rw [if_pos (show (PR b j true).ok_ = true from rfl)]
    by_cases h1000 : os.length = 1000
    ·rw [if_pos (by simp; omega),if_pos h1000,jy (by omega)]
     rfl
    ·rw [if_neg (by simp; omega),if_neg h1000,jy (by omega)]
     exact qfm b hb nums f j (os ++ [o]) (line + 1) (by omega) (by omega) (by simp; omega) (by omega)
   | none =>
    have hok : ok' = false := by
     cases ok' with
     | false => rfl
     | true =>
      have := (p1 rfl).2
      rw [hs] at this
      cases this
    subst hok
    rw [if_neg (by simp [PR]),qi9,jy (by omega)]
    rfl
  ·rw [if_neg (show ¬ ((PR b k true).ok_ && decide ((PR b k true).place.at_ < (b.l.length : Int))) = true by simp [PR]; omega),if_neg hkl]
   rfl
theorem qhy (b : Sl UInt8) : q6c b = some (q76 b.l) := by
 unfold q6c q76
 by_cases hb : (b.l.length : Int) > 65536
 ·rw [if_pos (by simpa using hb),if_pos (by omega)]
  rfl
 ·rw [if_neg (by simpa using hb),if_neg (by omega)]
  have hb' : b.l.length ≤ 65536 := by omega
  have hp0 : T.qc.mk (T.yo.mk b (0 : Int)) true = PR b 0 true := rfl
  rw [hp0]
  obtain ⟨v,j,ok',e1,l1,p1,q1⟩ := zb2 b hb'
  rw [e1]
  simp only [Option.bind_eq_bind,Option.bind_some]
  cases hs : yg b.l (q4f b.l) with
  | none =>
   have hok : ok' = false := by
    cases ok' with
    | false => rfl
    | true =>
     have := p1 rfl
     rw [hs] at this
     cases this
   subst hok
   rw [qi9]
   rfl
  | some x =>
   obtain ⟨v2,j2⟩ := x
   have hok : ok' = true := q1 (by rw [hs]; simp)
   subst hok
   have hx := p1 rfl
   rw [hs] at hx
   cases hx
   exact qfm b hb' ⟨v.isEmpty,v⟩ (b.l.length + 1) j [] 1 l1 (by omega) (by simp) (by omega)
theorem qib {L R : Bytes} {nums : Sl Int} : ∀ (ops : List T.Op) (g k : Nat) (os : List T.Op) (line : Nat),L.drop k = opB ops ++ R → (∀ o ∈ ops,Can o ∧ Texts o) → os.length + ops.length ≤ 1000 →
  q1l L nums (g + ops.length) k os line = q1l L nums g (k + (opB ops).length) (os ++ ops) (line + ops.length) ∧ L.drop (k + (opB ops).length) = R
 | [],g,k,os,line,h,hc,hl => by simpa [opB] using h
 | o :: ops,g,k,os,line,h,hc,hl => by
  rw [q6j] at h ⊢
  simp only [List.length_cons] at hl ⊢
  have h' : L.drop k = qo o ++ 10 :: (opB ops ++ R) := by rw [h]; simp
  obtain ⟨c1,c2⟩ := hc o (by simp)
  obtain ⟨e1,e2⟩ := zns c1 c2 h'
  have hk : k < L.length := by
   have := congrArg List.length h'
   simp only [List.length_drop,List.length_append,List.length_cons] at this
   omega
  obtain ⟨i1,i2⟩ := qib (R := R) ops g (k + (qo o).length + 1) (os ++ [o]) (line + 1) e2 (fun x hx => hc x (by simp [hx])) (by simp; omega)
  have hlen : k + (qo o ++ [10] ++ opB ops).length = k + (qo o).length + 1 + (opB ops).length := by
   simp only [List.length_append,List.length_cons,List.length_nil]
   omega
  rw [hlen]
  refine ⟨?_,i2⟩
  rw [← Nat.add_assoc g]
  rw [q1l,if_pos hk,e1]
  simp only
  rw [if_neg (by omega),i1,List.append_assoc,List.singleton_append]
  congr 1
  omega
theorem zci {L R : Bytes} {ns : List Int} (h : L = (([100,105,99,101] ++ nuB ns) ++ [10]) ++ R) (hn : ∀ n ∈ ns,inU n) : yg L (q4f L) = some (ns,4 + (nuB ns).length + 1) ∧ L.drop (4 + (nuB ns).length + 1) = R := by
 have h0 : L.drop 0 = [100,105,99,101] ++ (nuB ns ++ 10 :: R) := by rw [h]; simp
 have hw : jv L 0 = ([100,105,99,101],4) := by
  rw [qf0 h0 (by decide) (fun c r e => ?_)]
  ·rfl
  ·cases ns with
   | nil => cases e; decide
   | cons n ns => rw [q55,q47] at e; cases e; decide
 have h4 := jd h0
 have h5 := jd h4
 have h6 : L.drop (4 + (nuB ns).length + 1) = R := by
  have := jd (X := [10]) (R := R) (by simpa using h5)
  simpa using this
 refine ⟨?_,h6⟩
 unfold q4f
 rw [hw]
 simp only
 have hlen : ns.length < L.length + 1 := by
  have h7 := qak h4
  have : ∀ l : List Int,l.length ≤ (nuB l).length := by
   intro l
   induction l with
   | nil => simp
   | cons n l ih =>
    rw [q55,q47]
    simp only [List.length_append,List.length_cons]
    omega
  have := this ns
  omega
 rw [if_pos trivial,qh0 qap (q0a q84) ns (L.length + 1) 4 [] (by simpa using h4) hn hlen]
 have h8 : L.drop (4 + (nuB ns).length) = 10 :: R := by simpa using h5
 rw [qdw rfl h8]
 simp
theorem qh8 : ∀ l : List T.Op,l.length ≤ (opB l).length
 | [] => by simp
 | o :: l => by
  have := qh8 l
  rw [q6j]
  simp only [List.length_append,List.length_cons,List.length_nil]
  omega
theorem q8s (ns : List Int) (os : List T.Op) : (jm ns os).length = 4 + (nuB ns).length + 1 + (opB os).length := by
 unfold jm
 simp only [List.length_append,List.length_cons,List.length_nil]
theorem qo6 {ns : List Int} {os : List T.Op} (R : Bytes) (hn : ∀ n ∈ ns,inU n) (ho : ∀ o ∈ os,Can o ∧ Texts o) (hl : os.length ≤ 1000) (hs : (jm ns os ++ R).length ≤ 65536) :
  ∃ g,R.length < g ∧ q76 (jm ns os ++ R) = q1l (jm ns os ++ R) ⟨ns.isEmpty,ns⟩ g (jm ns os).length os (1 + os.length) ∧ (jm ns os ++ R).drop (jm ns os).length = R := by
 unfold q76
 rw [if_neg (by omega)]
 obtain ⟨d1,d2⟩ := zci (L := jm ns os ++ R) (R := opB os ++ R) (ns := ns) (by unfold jm; simp) hn
 rw [d1]
 simp only
 have hlen : (jm ns os ++ R).length + 1 = (4 + (nuB ns).length + 1 + ((opB os).length - os.length) + R.length + 1) + os.length := by
  have := qh8 os
  rw [List.length_append,q8s]
  omega
 obtain ⟨l1,l2⟩ := qib (nums := ⟨ns.isEmpty,ns⟩) os (4 + (nuB ns).length + 1 + ((opB os).length - os.length) + R.length + 1) _ [] 1 d2 ho (by simpa using hl)
 refine ⟨4 + (nuB ns).length + 1 + ((opB os).length - os.length) + R.length + 1,by omega, ?_,by simp⟩
 rw [hlen,l1,q8s,List.nil_append]
end Go.Proofs.YtaglodpkpggdiaaGreatDoor
