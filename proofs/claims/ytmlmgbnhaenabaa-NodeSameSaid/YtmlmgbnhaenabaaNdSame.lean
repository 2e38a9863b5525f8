/-
  The law NodeSame: of any two trees.
-/
import Derived.Test.YtmlmgbnhaenabaaNdF
import Derived.Test.YtmlmgbnhaenabaaLd
set_option linter.unusedSimpArgs false
set_option linter.unusedVariables false
namespace Go.Proofs.Ytmlmgbnhaenabaa
open Go Go.Gm

theorem awake_eqS : O.call 9 [] [] = some (.pv (.bool true), []) := orc_call (n := 60) (by kernel_rfl)

set_option maxRecDepth 100000 in
theorem same_eq (bs bt : Bool) (s t : List Snip) : O.call 3 [.pv (slP bs 18 (s.map Snip.enc)), .pv (slP bt 18 (t.map Snip.enc))] [] = some (.pv (.bool true), []) := by
  refine omega_F rfl fn3 (by rfl) (by rfl) rfl ?_
  have n1 := snips_eq (Snip.sizeL s) s (Nat.le_refl _) (bs && (s.map Snip.enc).isEmpty) 120 (by omega) (by omega)
  have n2 := snips_eq (Snip.sizeL t) t (Nat.le_refl _) (bt && (t.map Snip.enc).isEmpty) 120 (by omega) (by omega)
  have g1 := snips_size (Snip.sizeL s) s (Nat.le_refl _) 120
  have g2 := snips_size (Snip.sizeL t) t (Nat.le_refl _) 120
  by_cases c1 : snipsB s 120 < 0
  · simp (disch := first | omega | exact Sure.mk (by kernel_rfl)) only [core.down, tab.down, ↓reduceIte, Nat.reduceLeDiff, Nat.reduceEqDiff, Nat.reduceLT, Nat.reduceAdd, Nat.reduceSub, Nat.reduceMul, reduceCtorEq, Nat.reducePow, needs, aop, aBin, intBin, aLoad, List.toList_toArray, avOf, pvOf, allPV, List.map, List.take, List.drop, List.length_cons, List.length_nil, List.length_map, aStore, AV.stor, AV.cells, List.append, aFieldAddr, List.getElem?_cons_zero, List.getElem?_cons_succ, subHeap, AV.refs, AV.ren, AV.rows, if_true, if_false, List.nil_append, List.append_nil, List.cons_append, tupled, unz, aBuiltin, lenTd, aLen, List.getElem?_nil, touched, beq_self_eq_true, List.isEmpty_nil, Option.some.injEq, ge_iff_le, aUn, pure?, PV.cells, List.replicate, List.set_cons_zero, List.set_cons_succ, aConvert, strBin, sliceOf, bytesOf, eq_self, AV.thaw, Blk.thaw, aSlice, aNil, isNilV, aEq, plainEq, fitAll, keyFits, aMax, maxFrom, aPart, aFind, Blk.ren, Blk.refs, keyEq, aLookup, aUpdate, aEntry, aEntryStore, aDelete, List.flatMap_nil, List.flatMap_cons, gt_iff_lt, coreB.down, slP, n1, awake_eqS]
  by_cases c2 : snipsB t 120 < 0
  · simp (disch := first | omega | exact Sure.mk (by kernel_rfl)) only [core.down, tab.down, ↓reduceIte, Nat.reduceLeDiff, Nat.reduceEqDiff, Nat.reduceLT, Nat.reduceAdd, Nat.reduceSub, Nat.reduceMul, reduceCtorEq, Nat.reducePow, needs, aop, aBin, intBin, aLoad, List.toList_toArray, avOf, pvOf, allPV, List.map, List.take, List.drop, List.length_cons, List.length_nil, List.length_map, aStore, AV.stor, AV.cells, List.append, aFieldAddr, List.getElem?_cons_zero, List.getElem?_cons_succ, subHeap, AV.refs, AV.ren, AV.rows, if_true, if_false, List.nil_append, List.append_nil, List.cons_append, tupled, unz, aBuiltin, lenTd, aLen, List.getElem?_nil, touched, beq_self_eq_true, List.isEmpty_nil, Option.some.injEq, ge_iff_le, aUn, pure?, PV.cells, List.replicate, List.set_cons_zero, List.set_cons_succ, aConvert, strBin, sliceOf, bytesOf, eq_self, AV.thaw, Blk.thaw, aSlice, aNil, isNilV, aEq, plainEq, fitAll, keyFits, aMax, maxFrom, aPart, aFind, Blk.ren, Blk.refs, keyEq, aLookup, aUpdate, aEntry, aEntryStore, aDelete, List.flatMap_nil, List.flatMap_cons, gt_iff_lt, coreB.down, slP, n1, n2, awake_eqS]
  have h1 := g1 (by omega)
  have h2 := g2 (by omega)
  have a1 := same_call bs bt s t (by omega)
  have a2 := same_call bt bs t s (by omega)
  have a3 := same_call bs bs s s (by omega)
  have a4 := refSame_call (Snip.sizeL s) s (Nat.le_refl _) (by omega) bs bt t
  rw [sameL_symm] at a2
  rw [sameL_refl] at a3
  simp only [slP] at a1 a2 a3 a4
  have e (b : Bool) : (b == b) = true := by simp
  simp (disch := first | omega | exact Sure.mk (by kernel_rfl)) only [core.down, tab.down, ↓reduceIte, Nat.reduceLeDiff, Nat.reduceEqDiff, Nat.reduceLT, Nat.reduceAdd, Nat.reduceSub, Nat.reduceMul, reduceCtorEq, Nat.reducePow, needs, aop, aBin, intBin, aLoad, List.toList_toArray, avOf, pvOf, allPV, List.map, List.take, List.drop, List.length_cons, List.length_nil, List.length_map, aStore, AV.stor, AV.cells, List.append, aFieldAddr, List.getElem?_cons_zero, List.getElem?_cons_succ, subHeap, AV.refs, AV.ren, AV.rows, if_true, if_false, List.nil_append, List.append_nil, List.cons_append, tupled, unz, aBuiltin, lenTd, aLen, List.getElem?_nil, touched, beq_self_eq_true, List.isEmpty_nil, Option.some.injEq, ge_iff_le, aUn, pure?, PV.cells, List.replicate, List.set_cons_zero, List.set_cons_succ, aConvert, strBin, sliceOf, bytesOf, eq_self, AV.thaw, Blk.thaw, aSlice, aNil, isNilV, aEq, plainEq, fitAll, keyFits, aMax, maxFrom, aPart, aFind, Blk.ren, Blk.refs, keyEq, aLookup, aUpdate, aEntry, aEntryStore, aDelete, List.flatMap_nil, List.flatMap_cons, gt_iff_lt, coreB.down, slP, n1, n2, a1, a2, a3, a4, awake_eqS, e]

end Go.Proofs.Ytmlmgbnhaenabaa
