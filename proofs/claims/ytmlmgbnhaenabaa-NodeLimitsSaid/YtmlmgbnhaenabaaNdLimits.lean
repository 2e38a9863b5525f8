/-
  The law NodeLimits: of how deep a tree of one's own is, and of any number.
-/
import Derived.Test.YtmlmgbnhaenabaaNdC
import Derived.Test.YtmlmgbnhaenabaaLd
set_option linter.unusedSimpArgs false
set_option linter.unusedVariables false
namespace Go.Proofs.Ytmlmgbnhaenabaa
open Go Go.Gm

theorem awake_eqL : O.call 9 [] [] = some (.pv (.bool true), []) := orc_call (n := 60) (by kernel_rfl)

/-- A part without a transform. -/
def sn (k : Int) (t : Bytes) (n : Int) (has : Bool) (opts kids : PV) : List PV :=
  [.int .i64 k, .str t, .int .i64 n, .bool has, .bool false, .int .i64 0, .str [], .bool false, .sl true 0 [], .int .i64 0, .int .i64 0, .bool false, .sl true 0 [], .sl true 0 [], .bool false, .bool false, opts, kids]

/-- Parts within one another. -/
def elem : Nat → List PV
  | 0 => []
  | i + 1 => if i % 3 = 2 then sn 3 [86] 0 true (.sl true 0 []) (if i = 0 then .sl true 0 [] else .sl false 18 [elem i]) else sn 1 [] i true (.sl true 0 []) (if i = 0 then .sl true 0 [] else .sl false 18 [elem i])
def trees (k : Nat) : PV := .sl false 18 [elem k]

theorem natOf_2 (k : IntKind) : natOf (.pv (.int k 2)) = some 2 := rfl
theorem cast3 : ((3 : Nat) : Int) = 3 := rfl

def stopN (n : Int) : List PV := sn 1 [] n false (.sl true 0 []) (.sl true 0 [])
def choiceN (n : Int) : List PV := sn 2 [] n false (.sl false 1 [[.str []]]) (.sl true 0 [])
def textT : List PV := sn 0 [116] 0 false (.sl true 0 []) (.sl true 0 [])

theorem text_call : O.call 12 [.pv (.str [116])] [] = some (.pv (.agg textT), []) := orc_call (n := 10) (by kernel_rfl)
theorem fieldsText : O.call 43 [.pv (.agg textT)] [] = some (.pv (.bool true), []) := orc_call (n := 40) (by kernel_rfl)
theorem besidesStop (n : Int) : O.call 52 [.pv (.agg (stopN n))] [] = some (.pv (.bool true), []) := orc_call (n := 40) (by kernel_rfl)
theorem nothingChoice (n : Int) : O.call 51 [.pv (.agg (choiceN n))] [] = some (.pv (.bool true), []) := orc_call (n := 40) (by kernel_rfl)

set_option maxRecDepth 100000 in
theorem fieldsStop (n : Int) : O.call 43 [.pv (.agg (stopN n))] [] = some (.pv (.bool (decide (0 ≤ n ∧ n ≤ 9999))), []) := by
  have h := besidesStop n
  simp only [stopN, sn] at h
  refine omega_F rfl fn43 (by rfl) (by rfl) rfl ?_
  by_cases c1 : 0 ≤ n
  · by_cases c2 : n ≤ 9999
    · rw [show decide (0 ≤ n ∧ n ≤ 9999) = true by simp; omega]
      simp (disch := first | omega | exact Sure.mk (by kernel_rfl)) only [core.down, tab.down, ↓reduceIte, Nat.reduceLeDiff, Nat.reduceEqDiff, Nat.reduceLT, Nat.reduceAdd, Nat.reduceSub, Nat.reduceMul, reduceCtorEq, Nat.reducePow, needs, aop, aBin, intBin, aLoad, List.toList_toArray, avOf, pvOf, allPV, List.map, List.take, List.drop, List.length_cons, List.length_nil, List.length_map, aStore, AV.stor, AV.cells, List.append, aFieldAddr, List.getElem?_cons_zero, List.getElem?_cons_succ, subHeap, AV.refs, AV.ren, AV.rows, if_true, if_false, List.nil_append, List.append_nil, List.cons_append, tupled, unz, aBuiltin, lenTd, aLen, List.getElem?_nil, touched, beq_self_eq_true, List.isEmpty_nil, Option.some.injEq, ge_iff_le, aUn, pure?, PV.cells, List.replicate, List.set_cons_zero, List.set_cons_succ, aConvert, strBin, sliceOf, bytesOf, eq_self, AV.thaw, Blk.thaw, aSlice, aNil, isNilV, aEq, plainEq, fitAll, keyFits, aMax, maxFrom, aPart, aFind, Blk.ren, Blk.refs, keyEq, aLookup, aUpdate, aEntry, aEntryStore, aDelete, List.flatMap_nil, List.flatMap_cons, gt_iff_lt, sp6_0, sp18_0, sp32_0, coreB.down, stopN, sn, h]
    · rw [show decide (0 ≤ n ∧ n ≤ 9999) = false by simp; omega]
      simp (disch := first | omega | exact Sure.mk (by kernel_rfl)) only [core.down, tab.down, ↓reduceIte, Nat.reduceLeDiff, Nat.reduceEqDiff, Nat.reduceLT, Nat.reduceAdd, Nat.reduceSub, Nat.reduceMul, reduceCtorEq, Nat.reducePow, needs, aop, aBin, intBin, aLoad, List.toList_toArray, avOf, pvOf, allPV, List.map, List.take, List.drop, List.length_cons, List.length_nil, List.length_map, aStore, AV.stor, AV.cells, List.append, aFieldAddr, List.getElem?_cons_zero, List.getElem?_cons_succ, subHeap, AV.refs, AV.ren, AV.rows, if_true, if_false, List.nil_append, List.append_nil, List.cons_append, tupled, unz, aBuiltin, lenTd, aLen, List.getElem?_nil, touched, beq_self_eq_true, List.isEmpty_nil, Option.some.injEq, ge_iff_le, aUn, pure?, PV.cells, List.replicate, List.set_cons_zero, List.set_cons_succ, aConvert, strBin, sliceOf, bytesOf, eq_self, AV.thaw, Blk.thaw, aSlice, aNil, isNilV, aEq, plainEq, fitAll, keyFits, aMax, maxFrom, aPart, aFind, Blk.ren, Blk.refs, keyEq, aLookup, aUpdate, aEntry, aEntryStore, aDelete, List.flatMap_nil, List.flatMap_cons, gt_iff_lt, sp6_0, sp18_0, sp32_0, coreB.down, stopN, sn, h]
  · rw [show decide (0 ≤ n ∧ n ≤ 9999) = false by simp; omega]
    simp (disch := first | omega | exact Sure.mk (by kernel_rfl)) only [core.down, tab.down, ↓reduceIte, Nat.reduceLeDiff, Nat.reduceEqDiff, Nat.reduceLT, Nat.reduceAdd, Nat.reduceSub, Nat.reduceMul, reduceCtorEq, Nat.reducePow, needs, aop, aBin, intBin, aLoad, List.toList_toArray, avOf, pvOf, allPV, List.map, List.take, List.drop, List.length_cons, List.length_nil, List.length_map, aStore, AV.stor, AV.cells, List.append, aFieldAddr, List.getElem?_cons_zero, List.getElem?_cons_succ, subHeap, AV.refs, AV.ren, AV.rows, if_true, if_false, List.nil_append, List.append_nil, List.cons_append, tupled, unz, aBuiltin, lenTd, aLen, List.getElem?_nil, touched, beq_self_eq_true, List.isEmpty_nil, Option.some.injEq, ge_iff_le, aUn, pure?, PV.cells, List.replicate, List.set_cons_zero, List.set_cons_succ, aConvert, strBin, sliceOf, bytesOf, eq_self, AV.thaw, Blk.thaw, aSlice, aNil, isNilV, aEq, plainEq, fitAll, keyFits, aMax, maxFrom, aPart, aFind, Blk.ren, Blk.refs, keyEq, aLookup, aUpdate, aEntry, aEntryStore, aDelete, List.flatMap_nil, List.flatMap_cons, gt_iff_lt, sp6_0, sp18_0, sp32_0, coreB.down, stopN, sn, h]

set_option maxRecDepth 100000 in
theorem fieldsChoice (n : Int) : O.call 43 [.pv (.agg (choiceN n))] [] = some (.pv (.bool (decide (0 ≤ n ∧ n ≤ 9999))), []) := by
  have h := nothingChoice n
  simp only [choiceN, sn] at h
  refine omega_F rfl fn43 (by rfl) (by rfl) rfl ?_
  by_cases c1 : 0 ≤ n
  · by_cases c2 : n ≤ 9999
    · rw [show decide (0 ≤ n ∧ n ≤ 9999) = true by simp; omega]
      simp (disch := first | omega | exact Sure.mk (by kernel_rfl)) only [core.down, tab.down, ↓reduceIte, Nat.reduceLeDiff, Nat.reduceEqDiff, Nat.reduceLT, Nat.reduceAdd, Nat.reduceSub, Nat.reduceMul, reduceCtorEq, Nat.reducePow, needs, aop, aBin, intBin, aLoad, List.toList_toArray, avOf, pvOf, allPV, List.map, List.take, List.drop, List.length_cons, List.length_nil, List.length_map, aStore, AV.stor, AV.cells, List.append, aFieldAddr, List.getElem?_cons_zero, List.getElem?_cons_succ, subHeap, AV.refs, AV.ren, AV.rows, if_true, if_false, List.nil_append, List.append_nil, List.cons_append, tupled, unz, aBuiltin, lenTd, aLen, List.getElem?_nil, touched, beq_self_eq_true, List.isEmpty_nil, Option.some.injEq, ge_iff_le, aUn, pure?, PV.cells, List.replicate, List.set_cons_zero, List.set_cons_succ, aConvert, strBin, sliceOf, bytesOf, eq_self, AV.thaw, Blk.thaw, aSlice, aNil, isNilV, aEq, plainEq, fitAll, keyFits, aMax, maxFrom, aPart, aFind, Blk.ren, Blk.refs, keyEq, aLookup, aUpdate, aEntry, aEntryStore, aDelete, List.flatMap_nil, List.flatMap_cons, gt_iff_lt, sp6_0, sp18_0, sp32_0, coreB.down, choiceN, sn, h]
    · rw [show decide (0 ≤ n ∧ n ≤ 9999) = false by simp; omega]
      simp (disch := first | omega | exact Sure.mk (by kernel_rfl)) only [core.down, tab.down, ↓reduceIte, Nat.reduceLeDiff, Nat.reduceEqDiff, Nat.reduceLT, Nat.reduceAdd, Nat.reduceSub, Nat.reduceMul, reduceCtorEq, Nat.reducePow, needs, aop, aBin, intBin, aLoad, List.toList_toArray, avOf, pvOf, allPV, List.map, List.take, List.drop, List.length_cons, List.length_nil, List.length_map, aStore, AV.stor, AV.cells, List.append, aFieldAddr, List.getElem?_cons_zero, List.getElem?_cons_succ, subHeap, AV.refs, AV.ren, AV.rows, if_true, if_false, List.nil_append, List.append_nil, List.cons_append, tupled, unz, aBuiltin, lenTd, aLen, List.getElem?_nil, touched, beq_self_eq_true, List.isEmpty_nil, Option.some.injEq, ge_iff_le, aUn, pure?, PV.cells, List.replicate, List.set_cons_zero, List.set_cons_succ, aConvert, strBin, sliceOf, bytesOf, eq_self, AV.thaw, Blk.thaw, aSlice, aNil, isNilV, aEq, plainEq, fitAll, keyFits, aMax, maxFrom, aPart, aFind, Blk.ren, Blk.refs, keyEq, aLookup, aUpdate, aEntry, aEntryStore, aDelete, List.flatMap_nil, List.flatMap_cons, gt_iff_lt, sp6_0, sp18_0, sp32_0, coreB.down, choiceN, sn, h]
  · rw [show decide (0 ≤ n ∧ n ≤ 9999) = false by simp; omega]
    simp (disch := first | omega | exact Sure.mk (by kernel_rfl)) only [core.down, tab.down, ↓reduceIte, Nat.reduceLeDiff, Nat.reduceEqDiff, Nat.reduceLT, Nat.reduceAdd, Nat.reduceSub, Nat.reduceMul, reduceCtorEq, Nat.reducePow, needs, aop, aBin, intBin, aLoad, List.toList_toArray, avOf, pvOf, allPV, List.map, List.take, List.drop, List.length_cons, List.length_nil, List.length_map, aStore, AV.stor, AV.cells, List.append, aFieldAddr, List.getElem?_cons_zero, List.getElem?_cons_succ, subHeap, AV.refs, AV.ren, AV.rows, if_true, if_false, List.nil_append, List.append_nil, List.cons_append, tupled, unz, aBuiltin, lenTd, aLen, List.getElem?_nil, touched, beq_self_eq_true, List.isEmpty_nil, Option.some.injEq, ge_iff_le, aUn, pure?, PV.cells, List.replicate, List.set_cons_zero, List.set_cons_succ, aConvert, strBin, sliceOf, bytesOf, eq_self, AV.thaw, Blk.thaw, aSlice, aNil, isNilV, aEq, plainEq, fitAll, keyFits, aMax, maxFrom, aPart, aFind, Blk.ren, Blk.refs, keyEq, aLookup, aUpdate, aEntry, aEntryStore, aDelete, List.flatMap_nil, List.flatMap_cons, gt_iff_lt, sp6_0, sp18_0, sp32_0, coreB.down, choiceN, sn, h]

def oneN (n : Int) : PV := .sl false 18 [textT, stopN n, choiceN n]
def fitsSt (n : Int) (i : Int) : St := ⟨[(0, .pv (oneN n)), (1, .pv (.int .i64 32)), (7, .pv (oneN n)), (8, .pv (.int .i64 3)), (9, .pv (.int .i64 i))], [], 0⟩

set_option maxRecDepth 100000 in
theorem fits3 (n : Int) : O.loop 32 0 (fitsSt n 3) = some (.normal, ⟨[(4, .undef)], [], 0⟩) := by
  unfold fitsSt
  refine omega_L fn32 (by rfl) ?_
  simp (disch := first | omega | exact Sure.mk (by kernel_rfl)) only [core.down, tab.down, ↓reduceIte, Nat.reduceLeDiff, Nat.reduceEqDiff, Nat.reduceLT, Nat.reduceAdd, Nat.reduceSub, Nat.reduceMul, reduceCtorEq, Nat.reducePow, needs, aop, aBin, intBin, aLoad, List.toList_toArray, avOf, pvOf, allPV, List.map, List.take, List.drop, List.length_cons, List.length_nil, List.length_map, aStore, AV.stor, AV.cells, List.append, aFieldAddr, List.getElem?_cons_zero, List.getElem?_cons_succ, subHeap, AV.refs, AV.ren, AV.rows, if_true, if_false, List.nil_append, List.append_nil, List.cons_append, tupled, unz, aBuiltin, lenTd, aLen, List.getElem?_nil, touched, beq_self_eq_true, List.isEmpty_nil, Option.some.injEq, ge_iff_le, aUn, pure?, PV.cells, List.replicate, List.set_cons_zero, List.set_cons_succ, aConvert, strBin, sliceOf, bytesOf, eq_self, AV.thaw, Blk.thaw, aSlice, aNil, isNilV, aEq, plainEq, fitAll, keyFits, aMax, maxFrom, aPart, aFind, Blk.ren, Blk.refs, keyEq, aLookup, aUpdate, aEntry, aEntryStore, aDelete, List.flatMap_nil, List.flatMap_cons, gt_iff_lt, sp6_0, sp18_0, sp32_0, coreB.down, oneN]

set_option maxRecDepth 100000 in
theorem fits2 (n : Int) (c : 0 ≤ n ∧ n ≤ 9999) : O.loop 32 0 (fitsSt n 2) = some (.normal, ⟨[(4, .undef)], [], 0⟩) := by
  have h := fieldsChoice n
  rw [show decide (0 ≤ n ∧ n ≤ 9999) = true by simp; omega] at h
  rw [← fits3 n]
  unfold fitsSt
  refine omega_L fn32 (by rfl) ?_
  simp only [choiceN, sn] at h
  simp (disch := first | omega | exact Sure.mk (by kernel_rfl)) only [core.down, tab.down, ↓reduceIte, Nat.reduceLeDiff, Nat.reduceEqDiff, Nat.reduceLT, Nat.reduceAdd, Nat.reduceSub, Nat.reduceMul, reduceCtorEq, Nat.reducePow, needs, aop, aBin, intBin, aLoad, List.toList_toArray, avOf, pvOf, allPV, List.map, List.take, List.drop, List.length_cons, List.length_nil, List.length_map, aStore, AV.stor, AV.cells, List.append, aFieldAddr, List.getElem?_cons_zero, List.getElem?_cons_succ, subHeap, AV.refs, AV.ren, AV.rows, if_true, if_false, List.nil_append, List.append_nil, List.cons_append, tupled, unz, aBuiltin, lenTd, aLen, List.getElem?_nil, touched, beq_self_eq_true, List.isEmpty_nil, Option.some.injEq, ge_iff_le, aUn, pure?, PV.cells, List.replicate, List.set_cons_zero, List.set_cons_succ, aConvert, strBin, sliceOf, bytesOf, eq_self, AV.thaw, Blk.thaw, aSlice, aNil, isNilV, aEq, plainEq, fitAll, keyFits, aMax, maxFrom, aPart, aFind, Blk.ren, Blk.refs, keyEq, aLookup, aUpdate, aEntry, aEntryStore, aDelete, List.flatMap_nil, List.flatMap_cons, gt_iff_lt, sp6_0, sp18_0, sp32_0, coreB.down, oneN, choiceN, stopN, textT, sn, h, natOf_2, Int.reduceToNat, Int.reduceAdd]

set_option maxRecDepth 100000 in
theorem fits1 (n : Int) : O.loop 32 0 (fitsSt n 1) = if 0 ≤ n ∧ n ≤ 9999 then some (.normal, ⟨[(4, .undef)], [], 0⟩) else some (.ret, ⟨[(4, .pv (.bool false))], [], 0⟩) := by
  have h := fieldsStop n
  by_cases c : 0 ≤ n ∧ n ≤ 9999
  · rw [if_pos c, ← fits2 n c]
    rw [show decide (0 ≤ n ∧ n ≤ 9999) = true by simp; omega] at h
    unfold fitsSt
    refine omega_L fn32 (by rfl) ?_
    simp only [stopN, sn] at h
    simp (disch := first | omega | exact Sure.mk (by kernel_rfl)) only [core.down, tab.down, ↓reduceIte, Nat.reduceLeDiff, Nat.reduceEqDiff, Nat.reduceLT, Nat.reduceAdd, Nat.reduceSub, Nat.reduceMul, reduceCtorEq, Nat.reducePow, needs, aop, aBin, intBin, aLoad, List.toList_toArray, avOf, pvOf, allPV, List.map, List.take, List.drop, List.length_cons, List.length_nil, List.length_map, aStore, AV.stor, AV.cells, List.append, aFieldAddr, List.getElem?_cons_zero, List.getElem?_cons_succ, subHeap, AV.refs, AV.ren, AV.rows, if_true, if_false, List.nil_append, List.append_nil, List.cons_append, tupled, unz, aBuiltin, lenTd, aLen, List.getElem?_nil, touched, beq_self_eq_true, List.isEmpty_nil, Option.some.injEq, ge_iff_le, aUn, pure?, PV.cells, List.replicate, List.set_cons_zero, List.set_cons_succ, aConvert, strBin, sliceOf, bytesOf, eq_self, AV.thaw, Blk.thaw, aSlice, aNil, isNilV, aEq, plainEq, fitAll, keyFits, aMax, maxFrom, aPart, aFind, Blk.ren, Blk.refs, keyEq, aLookup, aUpdate, aEntry, aEntryStore, aDelete, List.flatMap_nil, List.flatMap_cons, gt_iff_lt, sp6_0, sp18_0, sp32_0, coreB.down, oneN, choiceN, stopN, textT, sn, h, natOf_2, Int.reduceToNat, Int.reduceAdd]
  · rw [if_neg c]
    rw [show decide (0 ≤ n ∧ n ≤ 9999) = false by simp; omega] at h
    unfold fitsSt
    refine omega_L fn32 (by rfl) ?_
    simp only [stopN, sn] at h
    simp (disch := first | omega | exact Sure.mk (by kernel_rfl)) only [core.down, tab.down, ↓reduceIte, Nat.reduceLeDiff, Nat.reduceEqDiff, Nat.reduceLT, Nat.reduceAdd, Nat.reduceSub, Nat.reduceMul, reduceCtorEq, Nat.reducePow, needs, aop, aBin, intBin, aLoad, List.toList_toArray, avOf, pvOf, allPV, List.map, List.take, List.drop, List.length_cons, List.length_nil, List.length_map, aStore, AV.stor, AV.cells, List.append, aFieldAddr, List.getElem?_cons_zero, List.getElem?_cons_succ, subHeap, AV.refs, AV.ren, AV.rows, if_true, if_false, List.nil_append, List.append_nil, List.cons_append, tupled, unz, aBuiltin, lenTd, aLen, List.getElem?_nil, touched, beq_self_eq_true, List.isEmpty_nil, Option.some.injEq, ge_iff_le, aUn, pure?, PV.cells, List.replicate, List.set_cons_zero, List.set_cons_succ, aConvert, strBin, sliceOf, bytesOf, eq_self, AV.thaw, Blk.thaw, aSlice, aNil, isNilV, aEq, plainEq, fitAll, keyFits, aMax, maxFrom, aPart, aFind, Blk.ren, Blk.refs, keyEq, aLookup, aUpdate, aEntry, aEntryStore, aDelete, List.flatMap_nil, List.flatMap_cons, gt_iff_lt, sp6_0, sp18_0, sp32_0, coreB.down, oneN, choiceN, stopN, textT, sn, h, natOf_2, Int.reduceToNat, Int.reduceAdd]

set_option maxRecDepth 100000 in
theorem fits0 (n : Int) : O.loop 32 0 (fitsSt n 0) = if 0 ≤ n ∧ n ≤ 9999 then some (.normal, ⟨[(4, .undef)], [], 0⟩) else some (.ret, ⟨[(4, .pv (.bool false))], [], 0⟩) := by
  have h := fieldsText
  rw [← fits1]
  unfold fitsSt
  refine omega_L fn32 (by rfl) ?_
  simp only [textT, sn] at h
  simp (disch := first | omega | exact Sure.mk (by kernel_rfl)) only [core.down, tab.down, ↓reduceIte, Nat.reduceLeDiff, Nat.reduceEqDiff, Nat.reduceLT, Nat.reduceAdd, Nat.reduceSub, Nat.reduceMul, reduceCtorEq, Nat.reducePow, needs, aop, aBin, intBin, aLoad, List.toList_toArray, avOf, pvOf, allPV, List.map, List.take, List.drop, List.length_cons, List.length_nil, List.length_map, aStore, AV.stor, AV.cells, List.append, aFieldAddr, List.getElem?_cons_zero, List.getElem?_cons_succ, subHeap, AV.refs, AV.ren, AV.rows, if_true, if_false, List.nil_append, List.append_nil, List.cons_append, tupled, unz, aBuiltin, lenTd, aLen, List.getElem?_nil, touched, beq_self_eq_true, List.isEmpty_nil, Option.some.injEq, ge_iff_le, aUn, pure?, PV.cells, List.replicate, List.set_cons_zero, List.set_cons_succ, aConvert, strBin, sliceOf, bytesOf, eq_self, AV.thaw, Blk.thaw, aSlice, aNil, isNilV, aEq, plainEq, fitAll, keyFits, aMax, maxFrom, aPart, aFind, Blk.ren, Blk.refs, keyEq, aLookup, aUpdate, aEntry, aEntryStore, aDelete, List.flatMap_nil, List.flatMap_cons, gt_iff_lt, sp6_0, sp18_0, sp32_0, coreB.down, oneN, choiceN, stopN, textT, sn, h, natOf_2, Int.reduceToNat, Int.reduceAdd]

set_option maxRecDepth 100000 in
theorem mayOne (n : Int) : O.call 19 [.pv (oneN n)] [] = some (.pv (.bool (decide (0 ≤ n) && decide (n ≤ 9999))), []) := by
  have h0 := fits0 n
  have hF : O.call 32 [.pv (oneN n), .pv (.int .i64 32)] [] = some (.pv (.bool (decide (0 ≤ n) && decide (n ≤ 9999))), []) := by
    refine omega_F rfl fn32 (by rfl) (by rfl) rfl ?_
    by_cases c : 0 ≤ n ∧ n ≤ 9999
    · rw [if_pos c] at h0
      obtain ⟨c1, c2⟩ := c
      rw [decide_eq_true c1, decide_eq_true c2]
      simp only [fitsSt, oneN] at h0
      simp (disch := first | omega | exact Sure.mk (by kernel_rfl)) only [core.down, tab.down, ↓reduceIte, Nat.reduceLeDiff, Nat.reduceEqDiff, Nat.reduceLT, Nat.reduceAdd, Nat.reduceSub, Nat.reduceMul, reduceCtorEq, Nat.reducePow, needs, aop, aBin, intBin, aLoad, List.toList_toArray, avOf, pvOf, allPV, List.map, List.take, List.drop, List.length_cons, List.length_nil, List.length_map, aStore, AV.stor, AV.cells, List.append, aFieldAddr, List.getElem?_cons_zero, List.getElem?_cons_succ, subHeap, AV.refs, AV.ren, AV.rows, if_true, if_false, List.nil_append, List.append_nil, List.cons_append, tupled, unz, aBuiltin, lenTd, aLen, List.getElem?_nil, touched, beq_self_eq_true, List.isEmpty_nil, Option.some.injEq, ge_iff_le, aUn, pure?, PV.cells, List.replicate, List.set_cons_zero, List.set_cons_succ, aConvert, strBin, sliceOf, bytesOf, eq_self, AV.thaw, Blk.thaw, aSlice, aNil, isNilV, aEq, plainEq, fitAll, keyFits, aMax, maxFrom, aPart, aFind, Blk.ren, Blk.refs, keyEq, aLookup, aUpdate, aEntry, aEntryStore, aDelete, List.flatMap_nil, List.flatMap_cons, gt_iff_lt, sp6_0, sp18_0, sp32_0, coreB.down, oneN, h0, cast3]
    · rw [if_neg c] at h0
      rw [show (decide (0 ≤ n) && decide (n ≤ 9999)) = false by simp; omega]
      simp only [fitsSt, oneN] at h0
      simp (disch := first | omega | exact Sure.mk (by kernel_rfl)) only [core.down, tab.down, ↓reduceIte, Nat.reduceLeDiff, Nat.reduceEqDiff, Nat.reduceLT, Nat.reduceAdd, Nat.reduceSub, Nat.reduceMul, reduceCtorEq, Nat.reducePow, needs, aop, aBin, intBin, aLoad, List.toList_toArray, avOf, pvOf, allPV, List.map, List.take, List.drop, List.length_cons, List.length_nil, List.length_map, aStore, AV.stor, AV.cells, List.append, aFieldAddr, List.getElem?_cons_zero, List.getElem?_cons_succ, subHeap, AV.refs, AV.ren, AV.rows, if_true, if_false, List.nil_append, List.append_nil, List.cons_append, tupled, unz, aBuiltin, lenTd, aLen, List.getElem?_nil, touched, beq_self_eq_true, List.isEmpty_nil, Option.some.injEq, ge_iff_le, aUn, pure?, PV.cells, List.replicate, List.set_cons_zero, List.set_cons_succ, aConvert, strBin, sliceOf, bytesOf, eq_self, AV.thaw, Blk.thaw, aSlice, aNil, isNilV, aEq, plainEq, fitAll, keyFits, aMax, maxFrom, aPart, aFind, Blk.ren, Blk.refs, keyEq, aLookup, aUpdate, aEntry, aEntryStore, aDelete, List.flatMap_nil, List.flatMap_cons, gt_iff_lt, sp6_0, sp18_0, sp32_0, coreB.down, oneN, h0, cast3]
  simp only [oneN] at hF
  refine omega_F rfl fn19 (by rfl) (by rfl) rfl ?_
  simp (disch := first | omega | exact Sure.mk (by kernel_rfl)) only [core.down, tab.down, ↓reduceIte, Nat.reduceLeDiff, Nat.reduceEqDiff, Nat.reduceLT, Nat.reduceAdd, Nat.reduceSub, Nat.reduceMul, reduceCtorEq, Nat.reducePow, needs, aop, aBin, intBin, aLoad, List.toList_toArray, avOf, pvOf, allPV, List.map, List.take, List.drop, List.length_cons, List.length_nil, List.length_map, aStore, AV.stor, AV.cells, List.append, aFieldAddr, List.getElem?_cons_zero, List.getElem?_cons_succ, subHeap, AV.refs, AV.ren, AV.rows, if_true, if_false, List.nil_append, List.append_nil, List.cons_append, tupled, unz, aBuiltin, lenTd, aLen, List.getElem?_nil, touched, beq_self_eq_true, List.isEmpty_nil, Option.some.injEq, ge_iff_le, aUn, pure?, PV.cells, List.replicate, List.set_cons_zero, List.set_cons_succ, aConvert, strBin, sliceOf, bytesOf, eq_self, AV.thaw, Blk.thaw, aSlice, aNil, isNilV, aEq, plainEq, fitAll, keyFits, aMax, maxFrom, aPart, aFind, Blk.ren, Blk.refs, keyEq, aLookup, aUpdate, aEntry, aEntryStore, aDelete, List.flatMap_nil, List.flatMap_cons, gt_iff_lt, sp6_0, sp18_0, sp32_0, coreB.down, oneN, hF]

/-! The trees -/
theorem tree_loop (n : Int) (k : Nat) (hk : k = 30 ∨ k = 31 ∨ k = 32 ∨ k = 33 ∨ k = 34) :
    O.loop 6 0 ⟨[(1, .pv (.int .i64 n)), (5, .pv (.int .i64 k)), (6, .pv (.sl true 0 [])), (7, .pv (.int .i64 0))], [], 0⟩ = some (.normal, ⟨[(1, .pv (.int .i64 n)), (5, .pv (.int .i64 k)), (6, .pv (trees k))], [], 0⟩) := by
  rcases hk with rfl | rfl | rfl | rfl | rfl
  · exact orc_loop (n := 60) (by kernel_rfl)
  · exact orc_loop (n := 60) (by kernel_rfl)
  · exact orc_loop (n := 60) (by kernel_rfl)
  · exact orc_loop (n := 60) (by kernel_rfl)
  · exact orc_loop (n := 60) (by kernel_rfl)

theorem tree_deep (k : Nat) (hk : k = 30 ∨ k = 31 ∨ k = 32 ∨ k = 33 ∨ k = 34) : O.call 18 [.pv (trees k)] [] = some (.pv (.int .i64 k), []) := by
  rcases hk with rfl | rfl | rfl | rfl | rfl
  · exact orc_call (n := 90) (by kernel_rfl)
  · exact orc_call (n := 90) (by kernel_rfl)
  · exact orc_call (n := 90) (by kernel_rfl)
  · exact orc_call (n := 90) (by kernel_rfl)
  · exact orc_call (n := 90) (by kernel_rfl)

theorem tree_may (k : Nat) (hk : k = 30 ∨ k = 31 ∨ k = 32 ∨ k = 33 ∨ k = 34) : O.call 19 [.pv (trees k)] [] = some (.pv (.bool (decide ((k : Int) ≤ 32))), []) := by
  rcases hk with rfl | rfl | rfl | rfl | rfl
  · exact orc_call (n := 120) (by kernel_rfl)
  · exact orc_call (n := 120) (by kernel_rfl)
  · exact orc_call (n := 120) (by kernel_rfl)
  · exact orc_call (n := 120) (by kernel_rfl)
  · exact orc_call (n := 120) (by kernel_rfl)

set_option maxRecDepth 100000 in
theorem limits_eq (deep n : Int) : O.call 6 [.pv (.int .i64 deep), .pv (.int .i64 n)] [] = some (.pv (.bool true), []) := by
  obtain ⟨l1, l2⟩ := lowI_range deep (n := 5) (by omega)
  have hlow := low_eq deep 5 (by omega) (by omega)
  obtain ⟨k, hk⟩ : ∃ k : Nat, (k : Int) = 30 + lowI deep 5 := ⟨(30 + lowI deep 5).toNat, by omega⟩
  have hk2 : k = 30 ∨ k = 31 ∨ k = 32 ∨ k = 33 ∨ k = 34 := by omega
  have h1 := tree_loop n k hk2
  have h2 := tree_deep k hk2
  have h3 := tree_may k hk2
  have h4 := mayOne n
  have h5 := text_call
  rw [hk] at h1 h2 h3
  unfold trees at h1 h2 h3
  generalize elem k = T at h1 h2 h3
  simp only [oneN, textT, stopN, choiceN, sn] at h4 h5
  refine omega_F rfl fn6 (by rfl) (by rfl) rfl ?_
  have e (b : Bool) : (b == b) = true := by simp
  by_cases c1 : 0 ≤ n
  · simp (disch := first | omega | exact Sure.mk (by kernel_rfl)) only [core.down, tab.down, ↓reduceIte, Nat.reduceLeDiff, Nat.reduceEqDiff, Nat.reduceLT, Nat.reduceAdd, Nat.reduceSub, Nat.reduceMul, reduceCtorEq, Nat.reducePow, needs, aop, aBin, intBin, aLoad, List.toList_toArray, avOf, pvOf, allPV, List.map, List.take, List.drop, List.length_cons, List.length_nil, List.length_map, aStore, AV.stor, AV.cells, List.append, aFieldAddr, List.getElem?_cons_zero, List.getElem?_cons_succ, subHeap, AV.refs, AV.ren, AV.rows, if_true, if_false, List.nil_append, List.append_nil, List.cons_append, tupled, unz, aBuiltin, lenTd, aLen, List.getElem?_nil, touched, beq_self_eq_true, List.isEmpty_nil, Option.some.injEq, ge_iff_le, aUn, pure?, PV.cells, List.replicate, List.set_cons_zero, List.set_cons_succ, aConvert, strBin, sliceOf, bytesOf, eq_self, AV.thaw, Blk.thaw, aSlice, aNil, isNilV, aEq, plainEq, fitAll, keyFits, aMax, maxFrom, aPart, aFind, Blk.ren, Blk.refs, keyEq, aLookup, aUpdate, aEntry, aEntryStore, aDelete, List.flatMap_nil, List.flatMap_cons, gt_iff_lt, sp6_0, sp18_0, sp32_0, coreB.down, hlow, h1, h2, h3, h4, h5, awake_eqL, e, aEq]
  · simp (disch := first | omega | exact Sure.mk (by kernel_rfl)) only [core.down, tab.down, ↓reduceIte, Nat.reduceLeDiff, Nat.reduceEqDiff, Nat.reduceLT, Nat.reduceAdd, Nat.reduceSub, Nat.reduceMul, reduceCtorEq, Nat.reducePow, needs, aop, aBin, intBin, aLoad, List.toList_toArray, avOf, pvOf, allPV, List.map, List.take, List.drop, List.length_cons, List.length_nil, List.length_map, aStore, AV.stor, AV.cells, List.append, aFieldAddr, List.getElem?_cons_zero, List.getElem?_cons_succ, subHeap, AV.refs, AV.ren, AV.rows, if_true, if_false, List.nil_append, List.append_nil, List.cons_append, tupled, unz, aBuiltin, lenTd, aLen, List.getElem?_nil, touched, beq_self_eq_true, List.isEmpty_nil, Option.some.injEq, ge_iff_le, aUn, pure?, PV.cells, List.replicate, List.set_cons_zero, List.set_cons_succ, aConvert, strBin, sliceOf, bytesOf, eq_self, AV.thaw, Blk.thaw, aSlice, aNil, isNilV, aEq, plainEq, fitAll, keyFits, aMax, maxFrom, aPart, aFind, Blk.ren, Blk.refs, keyEq, aLookup, aUpdate, aEntry, aEntryStore, aDelete, List.flatMap_nil, List.flatMap_cons, gt_iff_lt, sp6_0, sp18_0, sp32_0, coreB.down, hlow, h1, h2, h3, h4, h5, awake_eqL, e, aEq]

end Go.Proofs.Ytmlmgbnhaenabaa
