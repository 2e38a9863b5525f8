/-
  Scripts: what is shown, and the law ScriptShows, on plain data.
-/
import Derived.Test.YtaglodpkpggdiaaGreatDoorMbb
import Derived.Test.YtaglodpkpggdiaaGreatDoorMbc
set_option linter.unusedSimpArgs false
set_option linter.unusedVariables false
namespace Go.Proofs.YtaglodpkpggdiaaGreatDoor
open Go Go.Gm
def opB (l : List T.Op) : Bytes := l.flatMap fun o => qm o ++ [10]
theorem q5p (o : T.Op) (l : List T.Op) : opB (o :: l) = (qm o ++ [10]) ++ opB l := by simp [opB]
theorem qba {n : Int} (h : inU n) : inI n := by
 obtain ⟨h1,h2⟩ := h
 exact ⟨by omega,by omega⟩
theorem qvb {n : Int} (h : inU n) : IntKind.i64.wrap n = n := by
 obtain ⟨h1,h2⟩ := h
 exact jl
theorem qhl (os : Sl T.Op) (ns : Sl Int) (hl : ns.l.length ≤ 1000) (hn : ∀ x ∈ ns.l,inU x) : ∀ (l : List Int) (k : Nat) (out : Bytes),ns.l.drop k = l → k ≤ ns.l.length → out.length ≤ 10 + k * 21 →
  q2j (os,ns,(ns.l.length : Int),(k : Int),out) = some (out ++ nuB l)
 | [],k,out,h,hk,ho => by
  obtain ⟨h1,h2⟩ := drop_nil h hk
  rw [q2j.eq_1,if_neg (by simp; omega)]
  simp [nuB]
 | x :: l,k,out,h,hk,ho => by
  obtain ⟨g1,g2,g3,g4⟩ := drop_cons h
  have hx := hn x (List.mem_of_getElem? g2)
  have l1 := q1p (qba hx)
  rw [q2j.eq_1,if_pos (by simp; omega),g1]
  simp only [Option.bind_eq_bind,Option.bind_some]
  rw [qvb hx,gy (qba hx)]
  simp only [Option.bind_some]
  rw [if_pos (q04 (by omega) (by omega)),uf (by omega),qhl os ns hl hn l (k + 1) _ g4 (by omega) (by simp only [List.length_append]; omega),q5m,List.append_assoc]
def q0g (l : List T.Op) : Bool := l.all jh
theorem zc7 (o : T.Op) (l : List T.Op) : q0g (o :: l) = (jh o && q0g l) := by simp [q0g]
theorem qf6 (os : Sl T.Op) (r1 : List UInt8) (m : Nat) (hm : m + 1 ≤ 1073741824) (hf : ∀ o ∈ os.l,q7a o) (hs : ∀ o ∈ os.l,True) : ∀ (l : List T.Op) (k : Nat) (out : Bytes),os.l.drop k = l → k ≤ os.l.length → os.l.length ≤ 100000 → out.length + (opB l).length ≤ m →
  (q0g l = true → q29 (os,os,(os.l.length : Int),(k : Int),out,r1) = some (.inr (out ++ opB l))) ∧
  (q0g l = false → ∃ s,q29 (os,os,(os.l.length : Int),(k : Int),out,r1) = some (.inl (⟨true,[]⟩,2,s)))
 | [],k,out,h,hk,hl,ho => by
  obtain ⟨h1,h2⟩ := drop_nil h hk
  rw [q29.eq_1,if_neg (by simp; omega)]
  simp [opB,q0g]
 | o :: l,k,out,h,hk,hl,ho => by
  obtain ⟨g1,g2,g3,g4⟩ := drop_cons h
  have hx := hf o (List.mem_of_getElem? g2)
  have ho' := ho
  rw [q5p] at ho'
  simp only [List.length_append,List.length_cons,List.length_nil] at ho'
  rw [q29.eq_1,if_pos (by simp; omega),g1]
  simp only [Option.bind_eq_bind,Option.bind_some]
  rw [qyw o hx,zc7]
  simp only [Option.bind_some]
  cases hk2 : jh o with
  | false =>
   rw [if_pos (by rfl)]
   exact ⟨fun h => (by simp at h),fun _ => ⟨_,rfl⟩⟩
  | true =>
   rw [if_neg (by simp),if_pos (q04 (by omega) (by omega)),if_pos (q04 (by simp only [List.length_append]; omega) (by omega)),uf (by omega)]
   have ih := qf6 os r1 m hm hf hs l (k + 1) ((out ++ qm o) ++ [10]) g4 (by omega) hl (by simp only [List.length_append,List.length_cons,List.length_nil]; omega)
   refine ⟨fun h => ?_,fun h => ih.2 (by simpa using h)⟩
   rw [ih.1 (by simpa using h),q5p]
   simp
theorem x22 {l : List Int} (h : ∀ x ∈ l,inU x) : (nuB l).length ≤ l.length * 21 := by
 induction l with
 | nil => simp [nuB]
 | cons o l ih =>
  have h1 := q1p (qba (h o (by simp)))
  have h2 := ih fun x hx => h x (by simp [hx])
  rw [q5m,List.length_cons,Nat.succ_mul]
  simp only [List.length_append]
  omega
def zn (ns : List Int) (os : List T.Op) : Bytes := (([100,105,99,101] ++ nuB ns) ++ [10]) ++ opB os
def q7g (ns : List Int) (os : List T.Op) : Sl UInt8 × Int :=
 if q0g os = false then (⟨true,[]⟩,2) else if os.length > 1000 then (⟨true,[]⟩,7) else if (zn ns os).length > 65536 then (⟨true,[]⟩,4) else (⟨false,zn ns os⟩,0)
theorem qdf (ns : Sl Int) (os : Sl T.Op) (hl : ns.l.length ≤ 1000) (hn : ∀ x ∈ ns.l,inU x) (hf : ∀ o ∈ os.l,q7a o) (ho : os.l.length ≤ 100000) (hm : (opB os.l).length ≤ 1000000000) : q2h ns os = some (q7g ns.l os.l) := by
 unfold q2h
 rw [if_pos (by simp)]
 have h0 := qhl os ns hl hn ns.l 0 [100,105,99,101] rfl (by omega) (by simp)
 rw [Int.natCast_zero] at h0
 rw [h0]
 simp only [Option.bind_eq_bind,Option.bind_some]
 have hnl := x22 hn
 rw [if_pos (q04 (by simp only [List.length_append,List.length_cons,List.length_nil]; omega) (by omega))]
 have h2 := qf6 os [10] 1010000000 (by omega) hf (fun _ _ => trivial) os.l 0 (([100,105,99,101] ++ nuB ns.l) ++ [10]) rfl (by omega) ho (by simp only [List.length_append,List.length_cons,List.length_nil]; omega)
 rw [Int.natCast_zero] at h2
 unfold q7g
 cases hk : q0g os.l with
 | false =>
  obtain ⟨s,hs⟩ := h2.2 hk
  rw [hs]
  rfl
 | true =>
  rw [h2.1 hk]
  simp only [Option.bind_some]
  rw [if_neg (show ¬ (true = false) by simp)]
  by_cases h1 : os.l.length > 1000
  ·rw [if_pos (by simp; omega),if_pos h1]
  rw [if_neg (by simp; omega),if_neg h1]
  by_cases h3 : (zn ns.l os.l).length > 65536
  ·rw [if_pos (by simp only [decide_eq_true_eq]; exact Int.ofNat_lt.2 h3),if_pos h3]
  ·rw [if_neg (by simp only [decide_eq_true_eq]; exact fun h => h3 (Int.ofNat_lt.1 h)),if_neg h3]
   rfl
end Go.Proofs.YtaglodpkpggdiaaGreatDoor
