/-
  Scripts: all lines, and what is read.
-/
import Derived.Test.YtaglodpkpggdiaaGreatDoorMba
import Derived.Test.YtaglodpkpggdiaaGreatDoorMbd
set_option linter.unusedSimpArgs false
set_option linter.unusedVariables false
namespace Go.Proofs.YtaglodpkpggdiaaGreatDoor
open Go Go.Gm
def q1f (line : Nat) (e : Int) : Rd := (⟨true,[]⟩,⟨true,[]⟩,(line : Int),e)
def q18 (L : Bytes) (nums : Sl Int) : Nat → Nat → List T.Op → Nat → Rd
 | 0,_,os,_ => (nums,⟨os.isEmpty,os⟩,0,0)
 | f + 1,k,os,line => if k < L.length then match q1v L k with
   | none => q1f (line + 1) 10
   | some (o,j) => if os.length = 1000 then q1f (line + 1) 7 else q18 L nums f j (os ++ [o]) (line + 1)
  else (nums,⟨os.isEmpty,os⟩,0,0)
def q36 (L : Bytes) : Rd := if L.length > 65536 then q1f 0 4 else match uk L (q4b L) with
 | none => q1f 1 10
 | some (v,j) => q18 L ⟨v.isEmpty,v⟩ (L.length + 1) j [] 1
theorem qgd (b : Sl UInt8) (hb : b.l.length ≤ 65536) (nums : Sl Int) : ∀ (f k : Nat) (os : List T.Op) (line : Nat),k ≤ b.l.length → b.l.length - k < f → os.length ≤ 1000 → line + (b.l.length - k) < 1000000 →
  (q0r (b,nums,(line : Int),PR b k true,os) >>= zj1 nums) = some (q18 b.l nums f k os line)
 | 0,k,os,line,hk,hf,ho,hl => by omega
 | f + 1,k,os,line,hk,hf,ho,hl => by
  rw [q0r.eq_1]
  unfold q18
  by_cases hkl : k < b.l.length
  ·rw [if_pos (show ((PR b k true).ok_ && decide ((PR b k true).place.at_ < (b.l.length : Int))) = true by simp [PR]; omega),if_pos hkl]
   obtain ⟨o,j,ok',e1,l1,p1,q1⟩ := pOp b k hb hk
   rw [e1]
   simp only [Option.bind_eq_bind,Option.bind_some]
   rw [if_pos (q04 (by omega) (by omega))]
   cases hs : q1v b.l k with
   | some x =>
    obtain ⟨o',j'⟩ := x
    have hok : ok' = true := q1 rfl (by rw [hs]; simp)
    subst hok
    have hx := (p1 rfl).2
    rw [hs] at hx
    cases hx
    have hlt := zyf hs
    simp only
    rw [if_pos (show (PR b j true).ok_ = true from rfl)]
    by_cases h1000 : os.length = 1000
    ·rw [if_pos (by simp; omega),if_pos h1000,uf (by omega)]
     rfl
    ·rw [if_neg (by simp; omega),if_neg h1000,uf (by omega)]
     exact qgd b hb nums f j (os ++ [o]) (line + 1) (by omega) (by omega) (by simp; omega) (by omega)
   | none =>
    have hok : ok' = false := by
     cases ok' with
     | false => rfl
     | true =>
      have := (p1 rfl).2
      rw [hs] at this
      cases this
    subst hok
    rw [if_neg (by simp [PR]),qhs,uf (by omega)]
    rfl
  ·rw [if_neg (show ¬ ((PR b k true).ok_ && decide ((PR b k true).place.at_ < (b.l.length : Int))) = true by simp [PR]; omega),if_neg hkl]
   rfl
theorem q93 (b : Sl UInt8) : q3u b = some (q36 b.l) := by
 unfold q3u q36
 by_cases hb : (b.l.length : Int) > 65536
 ·rw [if_pos (by simpa using hb),if_pos (by omega)]
  rfl
 ·rw [if_neg (by simpa using hb),if_neg (by omega)]
  have hb' : b.l.length ≤ 65536 := by omega
  have hp0 : T.qb.mk (T.yh.mk b (0 : Int)) true = PR b 0 true := rfl
  rw [hp0]
  obtain ⟨v,j,ok',e1,l1,p1,q1⟩ := zh0 b hb'
  rw [e1]
  simp only [Option.bind_eq_bind,Option.bind_some]
  cases hs : uk b.l (q4b b.l) with
  | none =>
   have hok : ok' = false := by
    cases ok' with
    | false => rfl
    | true =>
     have := p1 rfl
     rw [hs] at this
     cases this
   subst hok
   rw [qhs]
   rfl
  | some x =>
   obtain ⟨v2,j2⟩ := x
   have hok : ok' = true := q1 (by rw [hs]; simp)
   subst hok
   have hx := p1 rfl
   rw [hs] at hx
   cases hx
   exact qgd b hb' ⟨v.isEmpty,v⟩ (b.l.length + 1) j [] 1 l1 (by omega) (by simp) (by omega)
theorem qg1 {L R : Bytes} {nums : Sl Int} : ∀ (ops : List T.Op) (g k : Nat) (os : List T.Op) (line : Nat),L.drop k = opB ops ++ R → (∀ o ∈ ops,Can o ∧ Texts o) → os.length + ops.length ≤ 1000 →
  q18 L nums (g + ops.length) k os line = q18 L nums g (k + (opB ops).length) (os ++ ops) (line + ops.length) ∧ L.drop (k + (opB ops).length) = R
 | [],g,k,os,line,h,hc,hl => by simpa [opB] using h
 | o :: ops,g,k,os,line,h,hc,hl => by
  rw [q5p] at h ⊢
  simp only [List.length_cons] at hl ⊢
  have h' : L.drop k = qm o ++ 10 :: (opB ops ++ R) := by rw [h]; simp
  obtain ⟨c1,c2⟩ := hc o (by simp)
  obtain ⟨e1,e2⟩ := qgl c1 c2 h'
  have hk : k < L.length := by
   have := congrArg List.length h'
   simp only [List.length_drop,List.length_append,List.length_cons] at this
   omega
  obtain ⟨i1,i2⟩ := qg1 (R := R) ops g (k + (qm o).length + 1) (os ++ [o]) (line + 1) e2 (fun x hx => hc x (by simp [hx])) (by simp; omega)
  have hlen : k + (qm o ++ [10] ++ opB ops).length = k + (qm o).length + 1 + (opB ops).length := by
   simp only [List.length_append,List.length_cons,List.length_nil]
   omega
  rw [hlen]
  refine ⟨?_,i2⟩
  rw [← Nat.add_assoc g]
  rw [q18,if_pos hk,e1]
  simp only
  rw [if_neg (by omega),i1,List.append_assoc,List.singleton_append]
  congr 1
  omega
theorem qqr {L R : Bytes} {ns : List Int} (h : L = (([100,105,99,101] ++ nuB ns) ++ [10]) ++ R) (hn : ∀ n ∈ ns,inU n) : uk L (q4b L) = some (ns,4 + (nuB ns).length + 1) ∧ L.drop (4 + (nuB ns).length + 1) = R := by
 have h0 : L.drop 0 = [100,105,99,101] ++ (nuB ns ++ 10 :: R) := by rw [h]; simp
 have hw : yg L 0 = ([100,105,99,101],4) := by
  rw [qch h0 (by decide) (fun c r e => ?_)]
  ·rfl
  ·cases ns with
   | nil => cases e; decide
   | cons n ns => rw [q5m,q4o] at e; cases e; decide
 have h4 := xz h0
 have h5 := xz h4
 have h6 : L.drop (4 + (nuB ns).length + 1) = R := by
  have := xz (X := [10]) (R := R) (by simpa using h5)
  simpa using this
 refine ⟨?_,h6⟩
 unfold q4b
 rw [hw]
 simp only
 have hlen : ns.length < L.length + 1 := by
  have h7 := qah h4
  have : ∀ l : List Int,l.length ≤ (nuB l).length := by
   intro l
   induction l with
   | nil => simp
   | cons n l ih =>
    rw [q5m,q4o]
    simp only [List.length_append,List.length_cons]
    omega
  have := this ns
  omega
 rw [if_pos trivial,qdq qb9 (q07 q7f) ns (L.length + 1) 4 [] (by simpa using h4) hn hlen]
 have h8 : L.drop (4 + (nuB ns).length) = 10 :: R := by simpa using h5
 rw [qbt rfl h8]
 simp
theorem qcv : ∀ l : List T.Op,l.length ≤ (opB l).length
 | [] => by simp
 | o :: l => by
  have := qcv l
  rw [q5p]
  simp only [List.length_append,List.length_cons,List.length_nil]
  omega
theorem q8d (ns : List Int) (os : List T.Op) : (zn ns os).length = 4 + (nuB ns).length + 1 + (opB os).length := by
 unfold zn
 simp only [List.length_append,List.length_cons,List.length_nil]
theorem qh7 {ns : List Int} {os : List T.Op} (R : Bytes) (hn : ∀ n ∈ ns,inU n) (ho : ∀ o ∈ os,Can o ∧ Texts o) (hl : os.length ≤ 1000) (hs : (zn ns os ++ R).length ≤ 65536) :
  ∃ g,R.length < g ∧ q36 (zn ns os ++ R) = q18 (zn ns os ++ R) ⟨ns.isEmpty,ns⟩ g (zn ns os).length os (1 + os.length) ∧ (zn ns os ++ R).drop (zn ns os).length = R := by
 unfold q36
 rw [if_neg (by omega)]
 obtain ⟨d1,d2⟩ := qqr (L := zn ns os ++ R) (R := opB os ++ R) (ns := ns) (by unfold zn; simp) hn
 rw [d1]
 simp only
 have hlen : (zn ns os ++ R).length + 1 = (4 + (nuB ns).length + 1 + ((opB os).length - os.length) + R.length + 1) + os.length := by
  have := qcv os
  rw [List.length_append,q8d]
  omega
 obtain ⟨l1,l2⟩ := qg1 (nums := ⟨ns.isEmpty,ns⟩) os (4 + (nuB ns).length + 1 + ((opB os).length - os.length) + R.length + 1) _ [] 1 d2 ho (by simpa using hl)
 refine ⟨4 + (nuB ns).length + 1 + ((opB os).length - os.length) + R.length + 1,by omega, ?_,by simp⟩
 rw [hlen,l1,q8d,List.nil_append]
theorem qca {ns : List Int} {os : List T.Op} (hn : ∀ n ∈ ns,inU n) (ho : ∀ o ∈ os,Can o ∧ Texts o) (hl : os.length ≤ 1000) (hs : (zn ns os).length ≤ 65536) : q36 (zn ns os) = (⟨ns.isEmpty,ns⟩,⟨os.isEmpty,os⟩,0,0) := by
 obtain ⟨g,g1,g2,g3⟩ := qh7 [] hn ho hl (by simpa using hs)
 rw [List.append_nil] at g2
 rw [g2]
 cases g with
 | zero => simp at g1
 | succ g => rw [q18,if_neg (by omega)]
end Go.Proofs.YtaglodpkpggdiaaGreatDoor
