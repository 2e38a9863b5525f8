/-
  Trees that are the same.
-/
import Derived.Test.YtmlmgbnhaenabaaNdB
set_option linter.unusedSimpArgs false
set_option linter.unusedVariables false
namespace Go.Proofs.Ytmlmgbnhaenabaa
open Go Go.Gm

def eqL {α : Type} (eq : α → α → Bool) : List α → List α → Bool
  | [], [] => true
  | a :: r, b :: s => eq a b && eqL eq r s
  | _, _ => false

theorem eqL_len {α : Type} {eq : α → α → Bool} : ∀ {a b : List α}, a.length ≠ b.length → eqL eq a b = false
  | [], [], h => absurd rfl h
  | [], _ :: _, _ => rfl
  | _ :: _, [], _ => rfl
  | x :: r, y :: s, h => by simp [eqL, eqL_len (a := r) (b := s) (fun e => h (by simp [e]))]

def strSame (a b : Bytes) : Bool := a == b
def rowSame (a b : Bytes × Bytes) : Bool := a.1 == b.1 && a.2 == b.2
def fmtSame (a b : Fmt) : Bool := a.kind == b.kind && (a.n == b.n && (a.case == b.case && (a.then_ == b.then_ && a.else_ == b.else_)))

mutual
def rxSame : Rx → Rx → Bool
  | .mk k c b _ rows mn mx lz _ kids, .mk k' c' b' _ rows' mn' mx' lz' _ kids' =>
    k == k' && (c == c' && (b == b' && (eqL rowSame rows rows' && (mn == mn' && (mx == mx' && (lz == lz' && rxSameL kids kids'))))))
def rxSameL : List Rx → List Rx → Bool
  | [], [] => true
  | x :: r, y :: s => rxSame x y && rxSameL r s
  | _, _ => false
end

theorem rxSameL_eq : ∀ (a b : List Rx), rxSameL a b = eqL rxSame a b
  | [], [] => rfl
  | [], _ :: _ => rfl
  | _ :: _, [] => rfl
  | x :: r, y :: s => by simp [rxSameL, eqL, rxSameL_eq r s]

theorem rxSame_eq (a b : Rx) : rxSame a b = (a.kind == b.kind && (a.char == b.char && (a.not == b.not && (eqL rowSame a.rows b.rows && (a.min == b.min && (a.max == b.max && (a.lazy == b.lazy && eqL rxSame a.kids b.kids))))))) := by
  cases a; cases b; simp [rxSame, rxSameL_eq, Rx.kind, Rx.char, Rx.not, Rx.rows, Rx.min, Rx.max, Rx.lazy, Rx.kids]

theorem bne_eq (a b : Int) : (a != b) = !(a == b) := rfl

/-! slices.Equal (printed by eqs.py) -/

set_option maxRecDepth 100000 in
theorem eqStr_loop (ba bb : Bool) (a b : List Bytes) (hab : a.length = b.length) (hl : a.length < 2 ^ 62) : ∀ (r s : List Bytes) (i : Nat), a.drop i = r → b.drop i = s →
    O.loop 39 0 ⟨[(0, .pv (.sl ba 1 (a.map strE))), (1, .pv (.sl bb 1 (b.map strE))), (12, .pv (.int .i64 a.length)), (13, .pv (.int .i64 i))], [], 0⟩ =
      match eqL strSame r s with
      | true => some (.normal, ⟨[(4, .undef)], [], 0⟩)
      | false => some (.ret, ⟨[(4, .pv (.bool false))], [], 0⟩)
  | [], s, i, h, hs => by
    have hi := drop_none h
    have : s = [] := by rw [← hs]; simp; omega
    subst this
    refine omega_L fn39 (by rfl) ?_
    simp (disch := first | omega | exact Sure.mk (by kernel_rfl)) only [core.down, tab.down, ↓reduceIte, Nat.reduceLeDiff, Nat.reduceEqDiff, Nat.reduceLT, Nat.reduceAdd, Nat.reduceSub, Nat.reduceMul, reduceCtorEq, Nat.reducePow, needs, aop, aBin, intBin, aLoad, List.toList_toArray, avOf, pvOf, allPV, List.map, List.take, List.drop, List.length_cons, List.length_nil, List.length_map, aStore, AV.stor, AV.cells, List.append, aFieldAddr, List.getElem?_cons_zero, List.getElem?_cons_succ, subHeap, AV.refs, AV.ren, AV.rows, if_true, if_false, List.nil_append, List.append_nil, List.cons_append, tupled, unz, aBuiltin, lenTd, aLen, List.getElem?_nil, touched, beq_self_eq_true, List.isEmpty_nil, Option.some.injEq, ge_iff_le, aUn, pure?, PV.cells, List.replicate, List.set_cons_zero, List.set_cons_succ, aConvert, strBin, sliceOf, bytesOf, eq_self, AV.thaw, Blk.thaw, aSlice, aNil, isNilV, aEq, plainEq, fitAll, keyFits, aMax, maxFrom, aPart, aFind, Blk.ren, Blk.refs, keyEq, aLookup, aUpdate, aEntry, aEntryStore, aDelete, List.flatMap_nil, List.flatMap_cons, gt_iff_lt, sp39_0, sp48_0, sp56_0, coreB.down, eqL]
  | x :: r, [], i, h, hs => by
    have := (drop_cons h).2.2
    have := drop_none hs
    omega
  | x :: r, y :: s, i, h, hs => by
    obtain ⟨h1, h2, h3⟩ := drop_cons h
    obtain ⟨k1, k2, k3⟩ := drop_cons hs
    have h4 := map_at (f := strE) h1
    have k4 := map_at (f := strE) k1
    simp only [eqL]
    cases hc : (strSame x y) with
    | false =>
      refine omega_L fn39 (by rfl) ?_
      simp only [strSame] at hc
      simp (disch := first | omega | exact Sure.mk (by kernel_rfl)) only [core.down, tab.down, ↓reduceIte, Nat.reduceLeDiff, Nat.reduceEqDiff, Nat.reduceLT, Nat.reduceAdd, Nat.reduceSub, Nat.reduceMul, reduceCtorEq, Nat.reducePow, needs, aop, aBin, intBin, aLoad, List.toList_toArray, avOf, pvOf, allPV, List.map, List.take, List.drop, List.length_cons, List.length_nil, List.length_map, aStore, AV.stor, AV.cells, List.append, aFieldAddr, List.getElem?_cons_zero, List.getElem?_cons_succ, subHeap, AV.refs, AV.ren, AV.rows, if_true, if_false, List.nil_append, List.append_nil, List.cons_append, tupled, unz, aBuiltin, lenTd, aLen, List.getElem?_nil, touched, beq_self_eq_true, List.isEmpty_nil, Option.some.injEq, ge_iff_le, aUn, pure?, PV.cells, List.replicate, List.set_cons_zero, List.set_cons_succ, aConvert, strBin, sliceOf, bytesOf, eq_self, AV.thaw, Blk.thaw, aSlice, aNil, isNilV, aEq, plainEq, fitAll, keyFits, aMax, maxFrom, aPart, aFind, Blk.ren, Blk.refs, keyEq, aLookup, aUpdate, aEntry, aEntryStore, aDelete, List.flatMap_nil, List.flatMap_cons, gt_iff_lt, sp39_0, sp48_0, sp56_0, coreB.down, h4, k4, strE, hc]
    | true =>
      rw [Bool.true_and, ← eqStr_loop ba bb a b hab hl r s (i + 1) h2 k2]
      refine omega_L fn39 (by rfl) ?_
      simp only [strSame] at hc
      simp (disch := first | omega | exact Sure.mk (by kernel_rfl)) only [core.down, tab.down, ↓reduceIte, Nat.reduceLeDiff, Nat.reduceEqDiff, Nat.reduceLT, Nat.reduceAdd, Nat.reduceSub, Nat.reduceMul, reduceCtorEq, Nat.reducePow, needs, aop, aBin, intBin, aLoad, List.toList_toArray, avOf, pvOf, allPV, List.map, List.take, List.drop, List.length_cons, List.length_nil, List.length_map, aStore, AV.stor, AV.cells, List.append, aFieldAddr, List.getElem?_cons_zero, List.getElem?_cons_succ, subHeap, AV.refs, AV.ren, AV.rows, if_true, if_false, List.nil_append, List.append_nil, List.cons_append, tupled, unz, aBuiltin, lenTd, aLen, List.getElem?_nil, touched, beq_self_eq_true, List.isEmpty_nil, Option.some.injEq, ge_iff_le, aUn, pure?, PV.cells, List.replicate, List.set_cons_zero, List.set_cons_succ, aConvert, strBin, sliceOf, bytesOf, eq_self, AV.thaw, Blk.thaw, aSlice, aNil, isNilV, aEq, plainEq, fitAll, keyFits, aMax, maxFrom, aPart, aFind, Blk.ren, Blk.refs, keyEq, aLookup, aUpdate, aEntry, aEntryStore, aDelete, List.flatMap_nil, List.flatMap_cons, gt_iff_lt, sp39_0, sp48_0, sp56_0, coreB.down, h4, k4, strE, hc]

set_option maxRecDepth 100000 in
theorem eqStr_eq (ba bb : Bool) (a b : List Bytes) (hl : a.length < 2 ^ 62) :
    O.call 39 [.pv (slP ba 1 (a.map strE)), .pv (slP bb 1 (b.map strE))] [] = some (.pv (.bool (eqL strSame a b)), []) := by
  refine omega_F rfl fn39 (by rfl) (by rfl) rfl ?_
  by_cases hab : a.length = b.length
  · have hL := eqStr_loop (ba && (a.map strE).isEmpty) (bb && (b.map strE).isEmpty) a b hab hl a b 0 rfl rfl
    have hab' : ((a.length : Int) == (b.length : Int)) = true := by rw [hab]; simp
    simp only [Int.natCast_zero] at hL
    cases hc : eqL strSame a b with
    | false =>
      rw [hc] at hL
      simp only at hL
      simp (disch := first | omega | exact Sure.mk (by kernel_rfl)) only [core.down, tab.down, ↓reduceIte, Nat.reduceLeDiff, Nat.reduceEqDiff, Nat.reduceLT, Nat.reduceAdd, Nat.reduceSub, Nat.reduceMul, reduceCtorEq, Nat.reducePow, needs, aop, aBin, intBin, aLoad, List.toList_toArray, avOf, pvOf, allPV, List.map, List.take, List.drop, List.length_cons, List.length_nil, List.length_map, aStore, AV.stor, AV.cells, List.append, aFieldAddr, List.getElem?_cons_zero, List.getElem?_cons_succ, subHeap, AV.refs, AV.ren, AV.rows, if_true, if_false, List.nil_append, List.append_nil, List.cons_append, tupled, unz, aBuiltin, lenTd, aLen, List.getElem?_nil, touched, beq_self_eq_true, List.isEmpty_nil, Option.some.injEq, ge_iff_le, aUn, pure?, PV.cells, List.replicate, List.set_cons_zero, List.set_cons_succ, aConvert, strBin, sliceOf, bytesOf, eq_self, AV.thaw, Blk.thaw, aSlice, aNil, isNilV, aEq, plainEq, fitAll, keyFits, aMax, maxFrom, aPart, aFind, Blk.ren, Blk.refs, keyEq, aLookup, aUpdate, aEntry, aEntryStore, aDelete, List.flatMap_nil, List.flatMap_cons, gt_iff_lt, sp39_0, sp48_0, sp56_0, coreB.down, slP, bne_eq, hab', hL]
    | true =>
      rw [hc] at hL
      simp only at hL
      simp (disch := first | omega | exact Sure.mk (by kernel_rfl)) only [core.down, tab.down, ↓reduceIte, Nat.reduceLeDiff, Nat.reduceEqDiff, Nat.reduceLT, Nat.reduceAdd, Nat.reduceSub, Nat.reduceMul, reduceCtorEq, Nat.reducePow, needs, aop, aBin, intBin, aLoad, List.toList_toArray, avOf, pvOf, allPV, List.map, List.take, List.drop, List.length_cons, List.length_nil, List.length_map, aStore, AV.stor, AV.cells, List.append, aFieldAddr, List.getElem?_cons_zero, List.getElem?_cons_succ, subHeap, AV.refs, AV.ren, AV.rows, if_true, if_false, List.nil_append, List.append_nil, List.cons_append, tupled, unz, aBuiltin, lenTd, aLen, List.getElem?_nil, touched, beq_self_eq_true, List.isEmpty_nil, Option.some.injEq, ge_iff_le, aUn, pure?, PV.cells, List.replicate, List.set_cons_zero, List.set_cons_succ, aConvert, strBin, sliceOf, bytesOf, eq_self, AV.thaw, Blk.thaw, aSlice, aNil, isNilV, aEq, plainEq, fitAll, keyFits, aMax, maxFrom, aPart, aFind, Blk.ren, Blk.refs, keyEq, aLookup, aUpdate, aEntry, aEntryStore, aDelete, List.flatMap_nil, List.flatMap_cons, gt_iff_lt, sp39_0, sp48_0, sp56_0, coreB.down, slP, bne_eq, hab', hL]
  · rw [eqL_len hab]
    have hab' : ((a.length : Int) == (b.length : Int)) = false := by simp; omega
    simp (disch := first | omega | exact Sure.mk (by kernel_rfl)) only [core.down, tab.down, ↓reduceIte, Nat.reduceLeDiff, Nat.reduceEqDiff, Nat.reduceLT, Nat.reduceAdd, Nat.reduceSub, Nat.reduceMul, reduceCtorEq, Nat.reducePow, needs, aop, aBin, intBin, aLoad, List.toList_toArray, avOf, pvOf, allPV, List.map, List.take, List.drop, List.length_cons, List.length_nil, List.length_map, aStore, AV.stor, AV.cells, List.append, aFieldAddr, List.getElem?_cons_zero, List.getElem?_cons_succ, subHeap, AV.refs, AV.ren, AV.rows, if_true, if_false, List.nil_append, List.append_nil, List.cons_append, tupled, unz, aBuiltin, lenTd, aLen, List.getElem?_nil, touched, beq_self_eq_true, List.isEmpty_nil, Option.some.injEq, ge_iff_le, aUn, pure?, PV.cells, List.replicate, List.set_cons_zero, List.set_cons_succ, aConvert, strBin, sliceOf, bytesOf, eq_self, AV.thaw, Blk.thaw, aSlice, aNil, isNilV, aEq, plainEq, fitAll, keyFits, aMax, maxFrom, aPart, aFind, Blk.ren, Blk.refs, keyEq, aLookup, aUpdate, aEntry, aEntryStore, aDelete, List.flatMap_nil, List.flatMap_cons, gt_iff_lt, sp39_0, sp48_0, sp56_0, coreB.down, slP, bne_eq, hab']


set_option maxRecDepth 100000 in
theorem eqRow_loop (ba bb : Bool) (a b : List (Bytes × Bytes)) (hab : a.length = b.length) (hl : a.length < 2 ^ 62) : ∀ (r s : List (Bytes × Bytes)) (i : Nat), a.drop i = r → b.drop i = s →
    O.loop 56 0 ⟨[(0, .pv (.sl ba 2 (a.map rowE))), (1, .pv (.sl bb 2 (b.map rowE))), (12, .pv (.int .i64 a.length)), (13, .pv (.int .i64 i))], [], 0⟩ =
      match eqL rowSame r s with
      | true => some (.normal, ⟨[(4, .undef)], [], 0⟩)
      | false => some (.ret, ⟨[(4, .pv (.bool false))], [], 0⟩)
  | [], s, i, h, hs => by
    have hi := drop_none h
    have : s = [] := by rw [← hs]; simp; omega
    subst this
    refine omega_L fn56 (by rfl) ?_
    simp (disch := first | omega | exact Sure.mk (by kernel_rfl)) only [core.down, tab.down, ↓reduceIte, Nat.reduceLeDiff, Nat.reduceEqDiff, Nat.reduceLT, Nat.reduceAdd, Nat.reduceSub, Nat.reduceMul, reduceCtorEq, Nat.reducePow, needs, aop, aBin, intBin, aLoad, List.toList_toArray, avOf, pvOf, allPV, List.map, List.take, List.drop, List.length_cons, List.length_nil, List.length_map, aStore, AV.stor, AV.cells, List.append, aFieldAddr, List.getElem?_cons_zero, List.getElem?_cons_succ, subHeap, AV.refs, AV.ren, AV.rows, if_true, if_false, List.nil_append, List.append_nil, List.cons_append, tupled, unz, aBuiltin, lenTd, aLen, List.getElem?_nil, touched, beq_self_eq_true, List.isEmpty_nil, Option.some.injEq, ge_iff_le, aUn, pure?, PV.cells, List.replicate, List.set_cons_zero, List.set_cons_succ, aConvert, strBin, sliceOf, bytesOf, eq_self, AV.thaw, Blk.thaw, aSlice, aNil, isNilV, aEq, plainEq, fitAll, keyFits, aMax, maxFrom, aPart, aFind, Blk.ren, Blk.refs, keyEq, aLookup, aUpdate, aEntry, aEntryStore, aDelete, List.flatMap_nil, List.flatMap_cons, gt_iff_lt, sp39_0, sp48_0, sp56_0, coreB.down, eqL]
  | x :: r, [], i, h, hs => by
    have := (drop_cons h).2.2
    have := drop_none hs
    omega
  | x :: r, y :: s, i, h, hs => by
    obtain ⟨h1, h2, h3⟩ := drop_cons h
    obtain ⟨k1, k2, k3⟩ := drop_cons hs
    have h4 := map_at (f := rowE) h1
    have k4 := map_at (f := rowE) k1
    simp only [eqL]
    cases hc : (rowSame x y) with
    | false =>
      refine omega_L fn56 (by rfl) ?_
      simp only [rowSame] at hc
      simp (disch := first | omega | exact Sure.mk (by kernel_rfl)) only [core.down, tab.down, ↓reduceIte, Nat.reduceLeDiff, Nat.reduceEqDiff, Nat.reduceLT, Nat.reduceAdd, Nat.reduceSub, Nat.reduceMul, reduceCtorEq, Nat.reducePow, needs, aop, aBin, intBin, aLoad, List.toList_toArray, avOf, pvOf, allPV, List.map, List.take, List.drop, List.length_cons, List.length_nil, List.length_map, aStore, AV.stor, AV.cells, List.append, aFieldAddr, List.getElem?_cons_zero, List.getElem?_cons_succ, subHeap, AV.refs, AV.ren, AV.rows, if_true, if_false, List.nil_append, List.append_nil, List.cons_append, tupled, unz, aBuiltin, lenTd, aLen, List.getElem?_nil, touched, beq_self_eq_true, List.isEmpty_nil, Option.some.injEq, ge_iff_le, aUn, pure?, PV.cells, List.replicate, List.set_cons_zero, List.set_cons_succ, aConvert, strBin, sliceOf, bytesOf, eq_self, AV.thaw, Blk.thaw, aSlice, aNil, isNilV, aEq, plainEq, fitAll, keyFits, aMax, maxFrom, aPart, aFind, Blk.ren, Blk.refs, keyEq, aLookup, aUpdate, aEntry, aEntryStore, aDelete, List.flatMap_nil, List.flatMap_cons, gt_iff_lt, sp39_0, sp48_0, sp56_0, coreB.down, h4, k4, rowE, hc]
    | true =>
      rw [Bool.true_and, ← eqRow_loop ba bb a b hab hl r s (i + 1) h2 k2]
      refine omega_L fn56 (by rfl) ?_
      simp only [rowSame] at hc
      simp (disch := first | omega | exact Sure.mk (by kernel_rfl)) only [core.down, tab.down, ↓reduceIte, Nat.reduceLeDiff, Nat.reduceEqDiff, Nat.reduceLT, Nat.reduceAdd, Nat.reduceSub, Nat.reduceMul, reduceCtorEq, Nat.reducePow, needs, aop, aBin, intBin, aLoad, List.toList_toArray, avOf, pvOf, allPV, List.map, List.take, List.drop, List.length_cons, List.length_nil, List.length_map, aStore, AV.stor, AV.cells, List.append, aFieldAddr, List.getElem?_cons_zero, List.getElem?_cons_succ, subHeap, AV.refs, AV.ren, AV.rows, if_true, if_false, List.nil_append, List.append_nil, List.cons_append, tupled, unz, aBuiltin, lenTd, aLen, List.getElem?_nil, touched, beq_self_eq_true, List.isEmpty_nil, Option.some.injEq, ge_iff_le, aUn, pure?, PV.cells, List.replicate, List.set_cons_zero, List.set_cons_succ, aConvert, strBin, sliceOf, bytesOf, eq_self, AV.thaw, Blk.thaw, aSlice, aNil, isNilV, aEq, plainEq, fitAll, keyFits, aMax, maxFrom, aPart, aFind, Blk.ren, Blk.refs, keyEq, aLookup, aUpdate, aEntry, aEntryStore, aDelete, List.flatMap_nil, List.flatMap_cons, gt_iff_lt, sp39_0, sp48_0, sp56_0, coreB.down, h4, k4, rowE, hc]

set_option maxRecDepth 100000 in
theorem eqRow_eq (ba bb : Bool) (a b : List (Bytes × Bytes)) (hl : a.length < 2 ^ 62) :
    O.call 56 [.pv (slP ba 2 (a.map rowE)), .pv (slP bb 2 (b.map rowE))] [] = some (.pv (.bool (eqL rowSame a b)), []) := by
  refine omega_F rfl fn56 (by rfl) (by rfl) rfl ?_
  by_cases hab : a.length = b.length
  · have hL := eqRow_loop (ba && (a.map rowE).isEmpty) (bb && (b.map rowE).isEmpty) a b hab hl a b 0 rfl rfl
    have hab' : ((a.length : Int) == (b.length : Int)) = true := by rw [hab]; simp
    simp only [Int.natCast_zero] at hL
    cases hc : eqL rowSame a b with
    | false =>
      rw [hc] at hL
      simp only at hL
      simp (disch := first | omega | exact Sure.mk (by kernel_rfl)) only [core.down, tab.down, ↓reduceIte, Nat.reduceLeDiff, Nat.reduceEqDiff, Nat.reduceLT, Nat.reduceAdd, Nat.reduceSub, Nat.reduceMul, reduceCtorEq, Nat.reducePow, needs, aop, aBin, intBin, aLoad, List.toList_toArray, avOf, pvOf, allPV, List.map, List.take, List.drop, List.length_cons, List.length_nil, List.length_map, aStore, AV.stor, AV.cells, List.append, aFieldAddr, List.getElem?_cons_zero, List.getElem?_cons_succ, subHeap, AV.refs, AV.ren, AV.rows, if_true, if_false, List.nil_append, List.append_nil, List.cons_append, tupled, unz, aBuiltin, lenTd, aLen, List.getElem?_nil, touched, beq_self_eq_true, List.isEmpty_nil, Option.some.injEq, ge_iff_le, aUn, pure?, PV.cells, List.replicate, List.set_cons_zero, List.set_cons_succ, aConvert, strBin, sliceOf, bytesOf, eq_self, AV.thaw, Blk.thaw, aSlice, aNil, isNilV, aEq, plainEq, fitAll, keyFits, aMax, maxFrom, aPart, aFind, Blk.ren, Blk.refs, keyEq, aLookup, aUpdate, aEntry, aEntryStore, aDelete, List.flatMap_nil, List.flatMap_cons, gt_iff_lt, sp39_0, sp48_0, sp56_0, coreB.down, slP, bne_eq, hab', hL]
    | true =>
      rw [hc] at hL
      simp only at hL
      simp (disch := first | omega | exact Sure.mk (by kernel_rfl)) only [core.down, tab.down, ↓reduceIte, Nat.reduceLeDiff, Nat.reduceEqDiff, Nat.reduceLT, Nat.reduceAdd, Nat.reduceSub, Nat.reduceMul, reduceCtorEq, Nat.reducePow, needs, aop, aBin, intBin, aLoad, List.toList_toArray, avOf, pvOf, allPV, List.map, List.take, List.drop, List.length_cons, List.length_nil, List.length_map, aStore, AV.stor, AV.cells, List.append, aFieldAddr, List.getElem?_cons_zero, List.getElem?_cons_succ, subHeap, AV.refs, AV.ren, AV.rows, if_true, if_false, List.nil_append, List.append_nil, List.cons_append, tupled, unz, aBuiltin, lenTd, aLen, List.getElem?_nil, touched, beq_self_eq_true, List.isEmpty_nil, Option.some.injEq, ge_iff_le, aUn, pure?, PV.cells, List.replicate, List.set_cons_zero, List.set_cons_succ, aConvert, strBin, sliceOf, bytesOf, eq_self, AV.thaw, Blk.thaw, aSlice, aNil, isNilV, aEq, plainEq, fitAll, keyFits, aMax, maxFrom, aPart, aFind, Blk.ren, Blk.refs, keyEq, aLookup, aUpdate, aEntry, aEntryStore, aDelete, List.flatMap_nil, List.flatMap_cons, gt_iff_lt, sp39_0, sp48_0, sp56_0, coreB.down, slP, bne_eq, hab', hL]
  · rw [eqL_len hab]
    have hab' : ((a.length : Int) == (b.length : Int)) = false := by simp; omega
    simp (disch := first | omega | exact Sure.mk (by kernel_rfl)) only [core.down, tab.down, ↓reduceIte, Nat.reduceLeDiff, Nat.reduceEqDiff, Nat.reduceLT, Nat.reduceAdd, Nat.reduceSub, Nat.reduceMul, reduceCtorEq, Nat.reducePow, needs, aop, aBin, intBin, aLoad, List.toList_toArray, avOf, pvOf, allPV, List.map, List.take, List.drop, List.length_cons, List.length_nil, List.length_map, aStore, AV.stor, AV.cells, List.append, aFieldAddr, List.getElem?_cons_zero, List.getElem?_cons_succ, subHeap, AV.refs, AV.ren, AV.rows, if_true, if_false, List.nil_append, List.append_nil, List.cons_append, tupled, unz, aBuiltin, lenTd, aLen, List.getElem?_nil, touched, beq_self_eq_true, List.isEmpty_nil, Option.some.injEq, ge_iff_le, aUn, pure?, PV.cells, List.replicate, List.set_cons_zero, List.set_cons_succ, aConvert, strBin, sliceOf, bytesOf, eq_self, AV.thaw, Blk.thaw, aSlice, aNil, isNilV, aEq, plainEq, fitAll, keyFits, aMax, maxFrom, aPart, aFind, Blk.ren, Blk.refs, keyEq, aLookup, aUpdate, aEntry, aEntryStore, aDelete, List.flatMap_nil, List.flatMap_cons, gt_iff_lt, sp39_0, sp48_0, sp56_0, coreB.down, slP, bne_eq, hab']


set_option maxRecDepth 100000 in
theorem eqFmt_loop (ba bb : Bool) (a b : List Fmt) (hab : a.length = b.length) (hl : a.length < 2 ^ 62) : ∀ (r s : List Fmt) (i : Nat), a.drop i = r → b.drop i = s →
    O.loop 48 0 ⟨[(0, .pv (.sl ba 5 (a.map Fmt.enc))), (1, .pv (.sl bb 5 (b.map Fmt.enc))), (12, .pv (.int .i64 a.length)), (13, .pv (.int .i64 i))], [], 0⟩ =
      match eqL fmtSame r s with
      | true => some (.normal, ⟨[(4, .undef)], [], 0⟩)
      | false => some (.ret, ⟨[(4, .pv (.bool false))], [], 0⟩)
  | [], s, i, h, hs => by
    have hi := drop_none h
    have : s = [] := by rw [← hs]; simp; omega
    subst this
    refine omega_L fn48 (by rfl) ?_
    simp (disch := first | omega | exact Sure.mk (by kernel_rfl)) only [core.down, tab.down, ↓reduceIte, Nat.reduceLeDiff, Nat.reduceEqDiff, Nat.reduceLT, Nat.reduceAdd, Nat.reduceSub, Nat.reduceMul, reduceCtorEq, Nat.reducePow, needs, aop, aBin, intBin, aLoad, List.toList_toArray, avOf, pvOf, allPV, List.map, List.take, List.drop, List.length_cons, List.length_nil, List.length_map, aStore, AV.stor, AV.cells, List.append, aFieldAddr, List.getElem?_cons_zero, List.getElem?_cons_succ, subHeap, AV.refs, AV.ren, AV.rows, if_true, if_false, List.nil_append, List.append_nil, List.cons_append, tupled, unz, aBuiltin, lenTd, aLen, List.getElem?_nil, touched, beq_self_eq_true, List.isEmpty_nil, Option.some.injEq, ge_iff_le, aUn, pure?, PV.cells, List.replicate, List.set_cons_zero, List.set_cons_succ, aConvert, strBin, sliceOf, bytesOf, eq_self, AV.thaw, Blk.thaw, aSlice, aNil, isNilV, aEq, plainEq, fitAll, keyFits, aMax, maxFrom, aPart, aFind, Blk.ren, Blk.refs, keyEq, aLookup, aUpdate, aEntry, aEntryStore, aDelete, List.flatMap_nil, List.flatMap_cons, gt_iff_lt, sp39_0, sp48_0, sp56_0, coreB.down, eqL]
  | x :: r, [], i, h, hs => by
    have := (drop_cons h).2.2
    have := drop_none hs
    omega
  | x :: r, y :: s, i, h, hs => by
    obtain ⟨h1, h2, h3⟩ := drop_cons h
    obtain ⟨k1, k2, k3⟩ := drop_cons hs
    have h4 := map_at (f := Fmt.enc) h1
    have k4 := map_at (f := Fmt.enc) k1
    simp only [eqL]
    cases hc : (fmtSame x y) with
    | false =>
      refine omega_L fn48 (by rfl) ?_
      simp only [fmtSame] at hc
      simp (disch := first | omega | exact Sure.mk (by kernel_rfl)) only [core.down, tab.down, ↓reduceIte, Nat.reduceLeDiff, Nat.reduceEqDiff, Nat.reduceLT, Nat.reduceAdd, Nat.reduceSub, Nat.reduceMul, reduceCtorEq, Nat.reducePow, needs, aop, aBin, intBin, aLoad, List.toList_toArray, avOf, pvOf, allPV, List.map, List.take, List.drop, List.length_cons, List.length_nil, List.length_map, aStore, AV.stor, AV.cells, List.append, aFieldAddr, List.getElem?_cons_zero, List.getElem?_cons_succ, subHeap, AV.refs, AV.ren, AV.rows, if_true, if_false, List.nil_append, List.append_nil, List.cons_append, tupled, unz, aBuiltin, lenTd, aLen, List.getElem?_nil, touched, beq_self_eq_true, List.isEmpty_nil, Option.some.injEq, ge_iff_le, aUn, pure?, PV.cells, List.replicate, List.set_cons_zero, List.set_cons_succ, aConvert, strBin, sliceOf, bytesOf, eq_self, AV.thaw, Blk.thaw, aSlice, aNil, isNilV, aEq, plainEq, fitAll, keyFits, aMax, maxFrom, aPart, aFind, Blk.ren, Blk.refs, keyEq, aLookup, aUpdate, aEntry, aEntryStore, aDelete, List.flatMap_nil, List.flatMap_cons, gt_iff_lt, sp39_0, sp48_0, sp56_0, coreB.down, h4, k4, Fmt.enc, hc]
    | true =>
      rw [Bool.true_and, ← eqFmt_loop ba bb a b hab hl r s (i + 1) h2 k2]
      refine omega_L fn48 (by rfl) ?_
      simp only [fmtSame] at hc
      simp (disch := first | omega | exact Sure.mk (by kernel_rfl)) only [core.down, tab.down, ↓reduceIte, Nat.reduceLeDiff, Nat.reduceEqDiff, Nat.reduceLT, Nat.reduceAdd, Nat.reduceSub, Nat.reduceMul, reduceCtorEq, Nat.reducePow, needs, aop, aBin, intBin, aLoad, List.toList_toArray, avOf, pvOf, allPV, List.map, List.take, List.drop, List.length_cons, List.length_nil, List.length_map, aStore, AV.stor, AV.cells, List.append, aFieldAddr, List.getElem?_cons_zero, List.getElem?_cons_succ, subHeap, AV.refs, AV.ren, AV.rows, if_true, if_false, List.nil_append, List.append_nil, List.cons_append, tupled, unz, aBuiltin, lenTd, aLen, List.getElem?_nil, touched, beq_self_eq_true, List.isEmpty_nil, Option.some.injEq, ge_iff_le, aUn, pure?, PV.cells, List.replicate, List.set_cons_zero, List.set_cons_succ, aConvert, strBin, sliceOf, bytesOf, eq_self, AV.thaw, Blk.thaw, aSlice, aNil, isNilV, aEq, plainEq, fitAll, keyFits, aMax, maxFrom, aPart, aFind, Blk.ren, Blk.refs, keyEq, aLookup, aUpdate, aEntry, aEntryStore, aDelete, List.flatMap_nil, List.flatMap_cons, gt_iff_lt, sp39_0, sp48_0, sp56_0, coreB.down, h4, k4, Fmt.enc, hc]

set_option maxRecDepth 100000 in
theorem eqFmt_eq (ba bb : Bool) (a b : List Fmt) (hl : a.length < 2 ^ 62) :
    O.call 48 [.pv (slP ba 5 (a.map Fmt.enc)), .pv (slP bb 5 (b.map Fmt.enc))] [] = some (.pv (.bool (eqL fmtSame a b)), []) := by
  refine omega_F rfl fn48 (by rfl) (by rfl) rfl ?_
  by_cases hab : a.length = b.length
  · have hL := eqFmt_loop (ba && (a.map Fmt.enc).isEmpty) (bb && (b.map Fmt.enc).isEmpty) a b hab hl a b 0 rfl rfl
    have hab' : ((a.length : Int) == (b.length : Int)) = true := by rw [hab]; simp
    simp only [Int.natCast_zero] at hL
    cases hc : eqL fmtSame a b with
    | false =>
      rw [hc] at hL
      simp only at hL
      simp (disch := first | omega | exact Sure.mk (by kernel_rfl)) only [core.down, tab.down, ↓reduceIte, Nat.reduceLeDiff, Nat.reduceEqDiff, Nat.reduceLT, Nat.reduceAdd, Nat.reduceSub, Nat.reduceMul, reduceCtorEq, Nat.reducePow, needs, aop, aBin, intBin, aLoad, List.toList_toArray, avOf, pvOf, allPV, List.map, List.take, List.drop, List.length_cons, List.length_nil, List.length_map, aStore, AV.stor, AV.cells, List.append, aFieldAddr, List.getElem?_cons_zero, List.getElem?_cons_succ, subHeap, AV.refs, AV.ren, AV.rows, if_true, if_false, List.nil_append, List.append_nil, List.cons_append, tupled, unz, aBuiltin, lenTd, aLen, List.getElem?_nil, touched, beq_self_eq_true, List.isEmpty_nil, Option.some.injEq, ge_iff_le, aUn, pure?, PV.cells, List.replicate, List.set_cons_zero, List.set_cons_succ, aConvert, strBin, sliceOf, bytesOf, eq_self, AV.thaw, Blk.thaw, aSlice, aNil, isNilV, aEq, plainEq, fitAll, keyFits, aMax, maxFrom, aPart, aFind, Blk.ren, Blk.refs, keyEq, aLookup, aUpdate, aEntry, aEntryStore, aDelete, List.flatMap_nil, List.flatMap_cons, gt_iff_lt, sp39_0, sp48_0, sp56_0, coreB.down, slP, bne_eq, hab', hL]
    | true =>
      rw [hc] at hL
      simp only at hL
      simp (disch := first | omega | exact Sure.mk (by kernel_rfl)) only [core.down, tab.down, ↓reduceIte, Nat.reduceLeDiff, Nat.reduceEqDiff, Nat.reduceLT, Nat.reduceAdd, Nat.reduceSub, Nat.reduceMul, reduceCtorEq, Nat.reducePow, needs, aop, aBin, intBin, aLoad, List.toList_toArray, avOf, pvOf, allPV, List.map, List.take, List.drop, List.length_cons, List.length_nil, List.length_map, aStore, AV.stor, AV.cells, List.append, aFieldAddr, List.getElem?_cons_zero, List.getElem?_cons_succ, subHeap, AV.refs, AV.ren, AV.rows, if_true, if_false, List.nil_append, List.append_nil, List.cons_append, tupled, unz, aBuiltin, lenTd, aLen, List.getElem?_nil, touched, beq_self_eq_true, List.isEmpty_nil, Option.some.injEq, ge_iff_le, aUn, pure?, PV.cells, List.replicate, List.set_cons_zero, List.set_cons_succ, aConvert, strBin, sliceOf, bytesOf, eq_self, AV.thaw, Blk.thaw, aSlice, aNil, isNilV, aEq, plainEq, fitAll, keyFits, aMax, maxFrom, aPart, aFind, Blk.ren, Blk.refs, keyEq, aLookup, aUpdate, aEntry, aEntryStore, aDelete, List.flatMap_nil, List.flatMap_cons, gt_iff_lt, sp39_0, sp48_0, sp56_0, coreB.down, slP, bne_eq, hab', hL]
  · rw [eqL_len hab]
    have hab' : ((a.length : Int) == (b.length : Int)) = false := by simp; omega
    simp (disch := first | omega | exact Sure.mk (by kernel_rfl)) only [core.down, tab.down, ↓reduceIte, Nat.reduceLeDiff, Nat.reduceEqDiff, Nat.reduceLT, Nat.reduceAdd, Nat.reduceSub, Nat.reduceMul, reduceCtorEq, Nat.reducePow, needs, aop, aBin, intBin, aLoad, List.toList_toArray, avOf, pvOf, allPV, List.map, List.take, List.drop, List.length_cons, List.length_nil, List.length_map, aStore, AV.stor, AV.cells, List.append, aFieldAddr, List.getElem?_cons_zero, List.getElem?_cons_succ, subHeap, AV.refs, AV.ren, AV.rows, if_true, if_false, List.nil_append, List.append_nil, List.cons_append, tupled, unz, aBuiltin, lenTd, aLen, List.getElem?_nil, touched, beq_self_eq_true, List.isEmpty_nil, Option.some.injEq, ge_iff_le, aUn, pure?, PV.cells, List.replicate, List.set_cons_zero, List.set_cons_succ, aConvert, strBin, sliceOf, bytesOf, eq_self, AV.thaw, Blk.thaw, aSlice, aNil, isNilV, aEq, plainEq, fitAll, keyFits, aMax, maxFrom, aPart, aFind, Blk.ren, Blk.refs, keyEq, aLookup, aUpdate, aEntry, aEntryStore, aDelete, List.flatMap_nil, List.flatMap_cons, gt_iff_lt, sp39_0, sp48_0, sp56_0, coreB.down, slP, bne_eq, hab']


end Go.Proofs.Ytmlmgbnhaenabaa
