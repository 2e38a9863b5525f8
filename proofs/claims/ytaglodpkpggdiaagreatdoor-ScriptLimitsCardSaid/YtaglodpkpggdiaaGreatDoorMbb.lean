/-
  Scripts: a line as it is told is the same by the program and by the document.
-/
import Derived.Test.YtaglodpkpggdiaaGreatDoorMar
set_option linter.unusedSimpArgs false
set_option linter.unusedVariables false
namespace Go.Proofs.YtaglodpkpggdiaaGreatDoor
open Go Go.Gm
theorem q0s {v2 : Bool} {t : Bytes} {o' : T.Op} {r : Bytes × Bool} (ht : t ≠ []) (h : (t,v2 && (o'.name == [] && (o'.text == [] && (o'.n == 0 && (!o'.extend && (q0j o'.edits.l && q0j o'.sels.l)))))) = r) :
  (if (v2 && (!(t == ([] : Bytes)))) then (vw o' >>= fun v => some (t,v)) else some (t,false)) = some r := by
 subst h
 have h2 : (!(t == ([] : Bytes))) = true := by simpa using ht
 rw [h2]
 cases v2 with
 | true =>
  rw [if_pos (by rfl),bare_eq]
  rfl
 | false => rfl
theorem zj9 (k : Int) : q78 k = some (nk k) := by
 have e : ∀ (i : Int),q3i (k,((5 : Nat) : Int),i,[([110,101,120,116] : Bytes),([112,114,101,118] : Bytes),([108,101,97,118,101] : Bytes),([117,110,100,111] : Bytes),([114,101,100,111] : Bytes)]) = if (decide (i < ((5 : Nat) : Int))) then
   zb [([110,101,120,116] : Bytes),([112,114,101,118] : Bytes),([108,101,97,118,101] : Bytes),([117,110,100,111] : Bytes),([114,101,100,111] : Bytes)] i >>= fun x3 =>
   mh x3 >>= fun v5 =>
   if (v5 == k) then some (.inl x3) else q3i (k,((5 : Nat) : Int),(IntKind.i64.wrap (i + (1 : Int))),[([110,101,120,116] : Bytes),([112,114,101,118] : Bytes),([108,101,97,118,101] : Bytes),([117,110,100,111] : Bytes),([114,101,100,111] : Bytes)])
  else some (.inr ()) := fun i => by rw [q3i.eq_1]
 have w : ∀ n : Nat,n < 10 → IntKind.i64.wrap ((n : Int) + 1) = ((n + 1 : Nat) : Int) := fun n hn => uf (by omega)
 unfold q78
 have e0 := e ((0 : Nat) : Int)
 have e1 := e ((1 : Nat) : Int)
 have e2 := e ((2 : Nat) : Int)
 have e3 := e ((3 : Nat) : Int)
 have e4 := e ((4 : Nat) : Int)
 have e5 := e ((5 : Nat) : Int)
 rw [w 0 (by omega)] at e0
 rw [w 1 (by omega)] at e1
 rw [w 2 (by omega)] at e2
 rw [w 3 (by omega)] at e3
 rw [w 4 (by omega)] at e4
 rw [if_pos (by simp)] at e0 e1 e2 e3 e4
 rw [if_neg (by simp)] at e5
 rw [show ((0 : Nat) : Int) = 0 by rfl] at e0
 have p1 : mh [110,101,120,116] = some 8 := by decide
 have p2 : mh [112,114,101,118] = some 9 := by decide
 have p3 : mh [108,101,97,118,101] = some 10 := by decide
 have p4 : mh [117,110,100,111] = some 12 := by decide
 have p5 : mh [114,101,100,111] = some 13 := by decide
 rw [e0]
 simp only [Option.bind_eq_bind]
 rw [show zb [([110,101,120,116] : Bytes),([112,114,101,118] : Bytes),([108,101,97,118,101] : Bytes),([117,110,100,111] : Bytes),([114,101,100,111] : Bytes)] 0 = some [110,101,120,116] by rfl,Option.bind_some,p1,Option.bind_some]
 unfold nk
 by_cases h1 : k = 8
 ·rw [if_pos (by simp [h1]),if_pos h1]; rfl
 rw [if_neg (by simpa using fun h => h1 h.symm),if_neg h1,e1]
 simp only [Option.bind_eq_bind]
 rw [show zb [([110,101,120,116] : Bytes),([112,114,101,118] : Bytes),([108,101,97,118,101] : Bytes),([117,110,100,111] : Bytes),([114,101,100,111] : Bytes)] ((1 : Nat) : Int) = some [112,114,101,118] by rfl,Option.bind_some,p2,Option.bind_some]
 by_cases h2 : k = 9
 ·rw [if_pos (by simp [h2]),if_pos h2]; rfl
 rw [if_neg (by simpa using fun h => h2 h.symm),if_neg h2,e2]
 simp only [Option.bind_eq_bind]
 rw [show zb [([110,101,120,116] : Bytes),([112,114,101,118] : Bytes),([108,101,97,118,101] : Bytes),([117,110,100,111] : Bytes),([114,101,100,111] : Bytes)] ((2 : Nat) : Int) = some [108,101,97,118,101] by rfl,Option.bind_some,p3,Option.bind_some]
 by_cases h3 : k = 10
 ·rw [if_pos (by simp [h3]),if_pos h3]; rfl
 rw [if_neg (by simpa using fun h => h3 h.symm),if_neg h3,e3]
 simp only [Option.bind_eq_bind]
 rw [show zb [([110,101,120,116] : Bytes),([112,114,101,118] : Bytes),([108,101,97,118,101] : Bytes),([117,110,100,111] : Bytes),([114,101,100,111] : Bytes)] ((3 : Nat) : Int) = some [117,110,100,111] by rfl,Option.bind_some,p4,Option.bind_some]
 by_cases h4 : k = 12
 ·rw [if_pos (by simp [h4]),if_pos h4]; rfl
 rw [if_neg (by simpa using fun h => h4 h.symm),if_neg h4,e4]
 simp only [Option.bind_eq_bind]
 rw [show zb [([110,101,120,116] : Bytes),([112,114,101,118] : Bytes),([108,101,97,118,101] : Bytes),([117,110,100,111] : Bytes),([114,101,100,111] : Bytes)] ((4 : Nat) : Int) = some [114,101,100,111] by rfl,Option.bind_some,p5,Option.bind_some]
 by_cases h5 : k = 13
 ·rw [if_pos (by simp [h5]),if_pos h5]; rfl
 rw [if_neg (by simpa using fun h => h5 h.symm),if_neg h5,e5]
 rfl
theorem qyw (o : T.Op) (h : q7a o) : q7d o = some (qm o,jh o) := by
 obtain ⟨f1,f2,f3,f4,f5,f6,f7⟩ := h
 have lt := qa6 f3
 have ln := qa6 f2
 have lm := q1p f1
 unfold q7d
 rw [zs5]
 simp only [Option.bind_eq_bind,Option.bind_some]
 by_cases k1 : o.kind = 1
 ·rw [if_pos (by simpa using k1),str_eq f2]
  simp only [Option.bind_some]
  rw [if_pos (by simp only [List.length_cons,List.length_nil]; omega),str_eq f3]
  simp only [Option.bind_some]
  rw [if_pos (by simp only [List.length_append,List.length_cons,List.length_nil]; omega)]
  refine q0s (by simp) ?_
  simp [qm,jh,k1,Bool.and_assoc]
 rw [if_neg (by simpa using k1)]
 by_cases k2 : o.kind = 2
 ·rw [if_pos (by simpa using k2),str_eq f3]
  simp only [Option.bind_some]
  rw [if_pos (by simp only [List.length_cons,List.length_nil]; omega),if_neg (by simp [k2])]
  refine q0s (by simp) ?_
  simp [qm,jh,k2,Bool.and_assoc]
 rw [if_neg (by simpa using k2)]
 by_cases k7 : o.kind = 7
 ·rw [if_pos (by simpa using k7),str_eq f3]
  simp only [Option.bind_some]
  rw [if_pos (by simp only [List.length_cons,List.length_nil]; omega),if_pos (by simp only [List.length_cons,List.length_nil]; omega)]
  refine q0s (by simp) ?_
  simp [qm,jh,k7,Bool.and_assoc]
 rw [if_neg (by simpa using k7)]
 by_cases k3 : o.kind = 3
 ·rw [if_pos (by simpa using k3),gy f1]
  simp only [Option.bind_some]
  rw [if_pos (by simp only [List.length_cons,List.length_nil]; omega),if_neg (by simp [k3])]
  refine q0s (by simp) ?_
  simp [qm,jh,k3,Bool.and_assoc]
 rw [if_neg (by simpa using k3)]
 by_cases k11 : o.kind = 11
 ·rw [if_pos (by simpa using k11),gy f1]
  simp only [Option.bind_some]
  rw [if_pos (by simp only [List.length_cons,List.length_nil]; omega),if_pos (by simp only [List.length_cons,List.length_nil]; omega)]
  refine q0s (by simp) ?_
  simp [qm,jh,k11,Bool.and_assoc]
 rw [if_neg (by simpa using k11)]
 by_cases k6 : o.kind = 6
 ·rw [if_pos (by simpa using k6),gy f1]
  simp only [Option.bind_some]
  rw [if_pos (by simp only [List.length_cons,List.length_nil]; omega),if_pos (by simp only [List.length_append,List.length_cons,List.length_nil]; omega)]
  cases hx : o.extend with
  | true =>
   rw [if_pos rfl,if_pos (by simp only [List.length_cons,List.length_nil]; omega),if_pos (by simp only [List.length_append,List.length_cons,List.length_nil]; omega)]
   refine q0s (by simp) ?_
   simp [qm,jh,k6,hx,Bool.and_assoc]
  | false =>
   rw [if_neg (by simp)]
   refine q0s (by simp) ?_
   simp [qm,jh,k6,hx,Bool.and_assoc]
 rw [if_neg (by simpa using k6)]
 by_cases k4 : o.kind = 4
 ·rw [if_pos (by simpa using k4)]
  have he := pEd o o o.edits f4 f5 o.edits.l 0 [101,100,105,116] (xc o.n) rfl (by omega) (by simp)
  rw [Int.natCast_zero] at he
  rw [he]
  simp only [Option.bind_some]
  refine q0s (by simp) ?_
  simp [qm,jh,k4,q0j,Bool.and_assoc]
 rw [if_neg (by simpa using k4)]
 by_cases k5 : o.kind = 5
 ·rw [if_pos (by simpa using k5)]
  have he := pSe o o o.sels f6 f7 o.sels.l 0 [115,101,108,101,99,116] (xc o.n) rfl (by omega) (by simp)
  rw [Int.natCast_zero] at he
  rw [he]
  simp only [Option.bind_some]
  refine q0s (by simp) ?_
  simp [qm,jh,k5,q0j,Bool.and_assoc]
 rw [if_neg (by simpa using k5),zj9]
 simp only [Option.bind_some]
 have e1 : qm o = nk o.kind := by simp [qm,k1,k2,k7,k3,k11,k6,k4,k5]
 rw [e1]
 by_cases hn : nk o.kind = []
 ·rw [hn]
  have hk : ¬ (o.kind = 8 ∨ o.kind = 9 ∨ o.kind = 10 ∨ o.kind = 12 ∨ o.kind = 13) := by
   rintro (h | h | h | h | h) <;> rw [h] at hn <;> simp [nk] at hn
  have e2 : jh o = false := by
   have : ¬ (1 ≤ o.kind ∧ o.kind ≤ 13) := by omega
   unfold jh
   by_cases h1 : 1 ≤ o.kind
   ·have h2 : ¬ o.kind ≤ 13 := fun h => this ⟨h1,h⟩
    simp [h2]
   ·simp [h1]
  rw [e2]
  simp
 ·refine q0s hn ?_
  have hk : o.kind = 8 ∨ o.kind = 9 ∨ o.kind = 10 ∨ o.kind = 12 ∨ o.kind = 13 := by
   unfold nk at hn
   by_cases a1 : o.kind = 8
   ·exact .inl a1
   by_cases a2 : o.kind = 9
   ·exact .inr (.inl a2)
   by_cases a3 : o.kind = 10
   ·exact .inr (.inr (.inl a3))
   by_cases a4 : o.kind = 12
   ·exact .inr (.inr (.inr (.inl a4)))
   by_cases a5 : o.kind = 13
   ·exact .inr (.inr (.inr (.inr a5)))
   ·simp [a1,a2,a3,a4,a5] at hn
  rcases hk with hk | hk | hk | hk | hk <;> simp [jh,hk,Bool.and_assoc]
end Go.Proofs.YtaglodpkpggdiaaGreatDoor
