/-
  EditorVars: the law's own text, its calls known.
-/
import Derived.Test.YtllckneefjgafaaGreatDoorVaj
import Derived.Test.YtllckneefjgafaaGreatDoorVan
set_option linter.unusedSimpArgs false
set_option linter.unusedVariables false
set_option maxRecDepth 100000
namespace Go.Proofs.YtllckneefjgafaaGreatDoor
open Go Go.Gm
set_option maxHeartbeats 16000000
def q56 (name value : Bytes) (o : T.Op) : Option Bool :=
 if ((decide ((name.length : Int) > (40 : Int))) || (decide ((value.length : Int) > (40 : Int)))) then
  aw4 >>= fun v => some v
 else some true
theorem zh1 (name value : Bytes) (o : T.Op) : q56 name value o = some true := by
 unfold q56
 split <;> rfl
theorem zkx {name value : Bytes} {o : T.Op} {r : Bool} (h : q56 name value o = some r) : O.call 3 [v_s name,v_s value,.pv (.agg (T.Op.enc o))] [] = some (v_b r,[]) := by
 revert h; unfold q56
 cases a1 : decide ((name.length : Int) > 40) with
 | true =>
  simp only [Bool.true_or,if_true]
  refine bs fun v2 h2 => ?_
  have f1 := q8r h2
  rintro ⟨⟩
  exact fF fn3 (h := by simp (maxSteps := 40000000) (disch := first | assumption | rfl | exact q0i.mk (by kernel_rfl)) only [go_sem,↓reduceIte,Nat.reduceLeDiff,Nat.reduceEqDiff,Nat.reduceLT,Nat.reduceAdd,Nat.reduceSub,Nat.reduceMul,reduceCtorEq,Nat.reducePow,Int.reduceBEq,Int.reduceBNe,Int.reduceEq, *])
 | false =>
 cases a2 : decide ((value.length : Int) > 40) with
 | true =>
  simp only [Bool.false_or,if_true]
  refine bs fun v2 h2 => ?_
  have f1 := q8r h2
  rintro ⟨⟩
  exact fF fn3 (h := by simp (maxSteps := 40000000) (disch := first | assumption | rfl | exact q0i.mk (by kernel_rfl)) only [go_sem,↓reduceIte,Nat.reduceLeDiff,Nat.reduceEqDiff,Nat.reduceLT,Nat.reduceAdd,Nat.reduceSub,Nat.reduceMul,reduceCtorEq,Nat.reducePow,Int.reduceBEq,Int.reduceBNe,Int.reduceEq, *])
 | false =>
 simp only [Bool.or_self,Bool.false_eq_true,if_false]
 rintro ⟨⟩
 have hn : name.length ≤ 40 ∧ value.length ≤ 40 := by
  simp only [decide_eq_false_iff_not] at a1 a2
  omega
 have z0 : zy (AV.pv (PV.int IntKind.i64 0)) = some 0 := rfl
 have f0 := @qi6
 have f1 := @qmn
 have f2 := qw2 name value
 have f3 := z1t o
 have f4 := @qr7
 have f5 := @zgu
 have f6 := @zps
 have f7 := @qbe
 obtain ⟨e1,e2,e3,e4,e5,e6,e7,e8,e9,e10,e11,e12,e13,e14,e15,e16⟩ := evE
 obtain ⟨r,s1,s2,s3⟩ := qzs name value hn.1 hn.2
 cases s3 with
 | bad =>
  have g0 := qhg name value s1
  have g1 := zr2 name value
  have g2 := zlg name value s2
  have g3 := qm8 name value
  have g4 := qpd name value
  have g5 := qfh name value
  exact fF fn3 (h := by simp (maxSteps := 40000000) (disch := first | assumption | rfl | exact q0i.mk (by kernel_rfl)) only [go_sem,↓reduceIte,Nat.reduceLeDiff,Nat.reduceEqDiff,Nat.reduceLT,Nat.reduceAdd,Nat.reduceSub,Nat.reduceMul,reduceCtorEq,Nat.reducePow,Int.reduceBEq,Int.reduceBNe,Int.reduceEq, *])
 | one =>
  have g0 := qmc name value s1
  have g1 := zc7 name value
  have g2 := qvj name value s2
  have g3 := zbn name value
  have g4 := zfx name value
  have g5 := zfy name value
  exact fF fn3 (h := by simp (maxSteps := 40000000) (disch := first | assumption | rfl | exact q0i.mk (by kernel_rfl)) only [go_sem,↓reduceIte,Nat.reduceLeDiff,Nat.reduceEqDiff,Nat.reduceLT,Nat.reduceAdd,Nat.reduceSub,Nat.reduceMul,reduceCtorEq,Nat.reducePow,Int.reduceBEq,Int.reduceBNe,Int.reduceEq, *])
 | two =>
  have g0 := qi3 name value s1
  have g1 := zgo name value
  have g2 := zox name value s2
  have g3 := qur name value
  have g4 := qe9 name value
  have g5 := z5n name value
  exact fF fn3 (h := by simp (maxSteps := 40000000) (disch := first | assumption | rfl | exact q0i.mk (by kernel_rfl)) only [go_sem,↓reduceIte,Nat.reduceLeDiff,Nat.reduceEqDiff,Nat.reduceLT,Nat.reduceAdd,Nat.reduceSub,Nat.reduceMul,reduceCtorEq,Nat.reducePow,Int.reduceBEq,Int.reduceBNe,Int.reduceEq, *])
end Go.Proofs.YtllckneefjgafaaGreatDoor
