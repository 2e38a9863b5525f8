/-
  The law NodeNames: what is a name is what the document says, of any text, any byte, any number. No condition.
-/
import Derived.Test.YtmlmgbnhaenabaaNdC
import Derived.Test.YtmlmgbnhaenabaaLd
set_option linter.unusedSimpArgs false
set_option linter.unusedVariables false
namespace Go.Proofs.Ytmlmgbnhaenabaa
open Go Go.Gm

theorem awake_eq : O.call 9 [] [] = some (.pv (.bool true), []) := orc_call (n := 60) (by kernel_rfl)

set_option maxRecDepth 100000 in
theorem names_loop (s : Bytes) (c many : Int) : ∀ (k i : Nat) (t : Bytes), (i : Int) + k = lowI many 70 → t.length ≤ 1 + i → ∃ t' : Bytes, t'.length ≤ 80 ∧
    O.loop 5 0 ⟨[(0, .pv (.str s)), (1, .pv (.int .u8 c)), (2, .pv (.int .i64 many)), (7, .pv (.str t)), (8, .pv (.int .i64 i))], [], 0⟩ =
      some (.normal, ⟨[(0, .pv (.str s)), (7, .pv (.str t'))], [], 0⟩)
  | 0, i, t, h, ht => by
    obtain ⟨l1, l2⟩ := lowI_range many (n := 70) (by omega)
    have hlow := low_eq many 70 (by omega) (by omega)
    refine ⟨t, by omega, ?_⟩
    refine omega_L fn5 (by rfl) ?_
    simp (disch := first | omega | exact Sure.mk (by kernel_rfl)) only [core.down, tab.down, ↓reduceIte, Nat.reduceLeDiff, Nat.reduceEqDiff, Nat.reduceLT, Nat.reduceAdd, Nat.reduceSub, Nat.reduceMul, reduceCtorEq, Nat.reducePow, needs, aop, aBin, intBin, aLoad, List.toList_toArray, avOf, pvOf, allPV, List.map, List.take, List.drop, List.length_cons, List.length_nil, List.length_map, aStore, AV.stor, AV.cells, List.append, aFieldAddr, List.getElem?_cons_zero, List.getElem?_cons_succ, subHeap, AV.refs, AV.ren, AV.rows, if_true, if_false, List.nil_append, List.append_nil, List.cons_append, tupled, unz, aBuiltin, lenTd, aLen, List.getElem?_nil, touched, beq_self_eq_true, List.isEmpty_nil, Option.some.injEq, ge_iff_le, aUn, pure?, PV.cells, List.replicate, List.set_cons_zero, List.set_cons_succ, aConvert, strBin, sliceOf, bytesOf, eq_self, gt_iff_lt, sp5_0, coreB.down, hlow]
  | k + 1, i, t, h, ht => by
    obtain ⟨l1, l2⟩ := lowI_range many (n := 70) (by omega)
    have hlow := low_eq many 70 (by omega) (by omega)
    obtain ⟨t', h1, h2⟩ := names_loop s c many k (i + 1) (t ++ [UInt8.ofNat c.toNat]) (by omega) (by simp; omega)
    refine ⟨t', h1, ?_⟩
    rw [← h2]
    refine omega_L fn5 (by rfl) ?_
    simp (disch := first | omega | exact Sure.mk (by kernel_rfl)) only [core.down, tab.down, ↓reduceIte, Nat.reduceLeDiff, Nat.reduceEqDiff, Nat.reduceLT, Nat.reduceAdd, Nat.reduceSub, Nat.reduceMul, reduceCtorEq, Nat.reducePow, needs, aop, aBin, intBin, aLoad, List.toList_toArray, avOf, pvOf, allPV, List.map, List.take, List.drop, List.length_cons, List.length_nil, List.length_map, aStore, AV.stor, AV.cells, List.append, aFieldAddr, List.getElem?_cons_zero, List.getElem?_cons_succ, subHeap, AV.refs, AV.ren, AV.rows, if_true, if_false, List.nil_append, List.append_nil, List.cons_append, tupled, unz, aBuiltin, lenTd, aLen, List.getElem?_nil, touched, beq_self_eq_true, List.isEmpty_nil, Option.some.injEq, ge_iff_le, aUn, pure?, PV.cells, List.replicate, List.set_cons_zero, List.set_cons_succ, aConvert, strBin, sliceOf, bytesOf, eq_self, gt_iff_lt, sp5_0, coreB.down, hlow]


set_option maxRecDepth 100000 in
theorem names_eq (s : Bytes) (c many : Int) : O.call 5 [.pv (.str s), .pv (.int .u8 c), .pv (.int .i64 many)] [] = some (.pv (.bool true), []) := by
  refine omega_F rfl fn5 (by rfl) (by rfl) rfl ?_
  by_cases hs : (80 : Int) < s.length
  · simp (disch := first | omega | exact Sure.mk (by kernel_rfl)) only [core.down, tab.down, ↓reduceIte, Nat.reduceLeDiff, Nat.reduceEqDiff, Nat.reduceLT, Nat.reduceAdd, Nat.reduceSub, Nat.reduceMul, reduceCtorEq, Nat.reducePow, needs, aop, aBin, intBin, aLoad, List.toList_toArray, avOf, pvOf, allPV, List.map, List.take, List.drop, List.length_cons, List.length_nil, List.length_map, aStore, AV.stor, AV.cells, List.append, aFieldAddr, List.getElem?_cons_zero, List.getElem?_cons_succ, subHeap, AV.refs, AV.ren, AV.rows, if_true, if_false, List.nil_append, List.append_nil, List.cons_append, tupled, unz, aBuiltin, lenTd, aLen, List.getElem?_nil, touched, beq_self_eq_true, List.isEmpty_nil, Option.some.injEq, ge_iff_le, aUn, pure?, PV.cells, List.replicate, List.set_cons_zero, List.set_cons_succ, aConvert, strBin, sliceOf, bytesOf, eq_self, gt_iff_lt, sp5_0, coreB.down, awake_eq]
  · obtain ⟨l1, l2⟩ := lowI_range many (n := 70) (by omega)
    obtain ⟨t, h1, h2⟩ := names_loop s c many (lowI many 70).toNat 0 [95] (by omega) (by simp)
    simp only [Int.natCast_zero] at h2
    have e1 := name_eq s (by omega)
    have e2 := rname_eq s (by omega)
    have e3 := name_eq t (by omega)
    have e4 := rname_eq t (by omega)
    simp (disch := first | omega | exact Sure.mk (by kernel_rfl)) only [core.down, tab.down, ↓reduceIte, Nat.reduceLeDiff, Nat.reduceEqDiff, Nat.reduceLT, Nat.reduceAdd, Nat.reduceSub, Nat.reduceMul, reduceCtorEq, Nat.reducePow, needs, aop, aBin, intBin, aLoad, List.toList_toArray, avOf, pvOf, allPV, List.map, List.take, List.drop, List.length_cons, List.length_nil, List.length_map, aStore, AV.stor, AV.cells, List.append, aFieldAddr, List.getElem?_cons_zero, List.getElem?_cons_succ, subHeap, AV.refs, AV.ren, AV.rows, if_true, if_false, List.nil_append, List.append_nil, List.cons_append, tupled, unz, aBuiltin, lenTd, aLen, List.getElem?_nil, touched, beq_self_eq_true, List.isEmpty_nil, Option.some.injEq, ge_iff_le, aUn, pure?, PV.cells, List.replicate, List.set_cons_zero, List.set_cons_succ, aConvert, strBin, sliceOf, bytesOf, eq_self, gt_iff_lt, sp5_0, coreB.down, awake_eq, h2, e1, e2, e3, e4, aEq]

end Go.Proofs.Ytmlmgbnhaenabaa
