/-
  What the machine's calls come to: the plain functions.
-/
import Derived.Test.YtdhgdeelagmbpaaSp
import Derived.Test.YtdhgdeelagmbpaaSh
import Derived.Test.YtdhgdeelagmbpaaAw
set_option linter.unusedSimpArgs false
set_option linter.unusedVariables false
set_option maxRecDepth 100000
namespace Go.Proofs.Ytdhgdeelagmbpaa
open Go Go.Gm
set_option maxHeartbeats 4000000 in
theorem law0_Low_ok {x : Int} {n : Int} {r : (Int)} (h : law0_Low x n = some r) :
    O.call 10 [AV.pv (PV.int IntKind.i64 x), AV.pv (PV.int IntKind.i64 n)] [] = some (AV.pv (PV.int IntKind.i64 r), []) := by
  unfold law0_Low at h
  by_cases h1 : ¬ ((IntKind.u64.wrap n) ≠ 0)
  rw [if_neg h1] at h; cases h
  replace h1 := Decidable.of_not_not h1; rw [if_pos h1] at h
  have f1 := eq_false h1
  cases h
  rotate_left
  all_goals
    refine omega_F rfl fn10 (by rfl) (by rfl) rfl ?_
    simp (disch := first | assumption | rfl | exact Sure.mk (by kernel_rfl)) only [coreG.down, tab.down, ↓reduceIte, Nat.reduceLeDiff, Nat.reduceEqDiff, Nat.reduceLT, Nat.reduceAdd, Nat.reduceSub, Nat.reduceMul, reduceCtorEq, Nat.reducePow, needs, aop, aBin, intBin, aLoad, List.toList_toArray, avOf, pvOf, allPV, List.take, List.drop, List.length_cons, List.length_nil, List.length_map, aStore, AV.stor, AV.cells, List.append, aFieldAddr, List.getElem?_cons_zero, List.getElem?_cons_succ, subHeap, AV.refs, AV.ren, AV.rows, if_true, if_false, List.nil_append, List.append_nil, List.cons_append, tupled, unz, aBuiltin, lenTd, aLen, ptrRows, List.getElem?_nil, touched, List.isEmpty_nil, Option.some.injEq, aUn, pure?, PV.cells, List.replicate, List.set_cons_zero, List.set_cons_succ, aConvert, strBin, sliceOf, eq_self, AV.thaw, Blk.thaw, aSlice, aNil, isNilV, aEq, plainEq, fitAll, keyFits, aMax, maxFrom, aPart, Blk.ren, Blk.refs, List.flatMap_nil, List.flatMap_cons, List.map_cons, List.map_nil, List.drop_zero, Option.isSome_none, Option.isNone_none, Option.isSome_some, Option.isNone_some, *]
set_option maxHeartbeats 4000000 in
theorem law26_StopsRings_L2_ok {ups : (Sl Int)} {ns : (Sl Int)} {i : Int} {up : Int} {k : Int} {in_ : Int} {in_2 : Int} {r1_ : (List T.Stop)} {r : (Int)} (h : law26_StopsRings_L2 (ups, ns, i, up, k, in_, in_2, r1_) = some r) :
    O.loop 4 2 ⟨[(0, AV.pv (PV.sl ups.nil (szc 1 ups.l) (List.map intE ups.l))), (1, AV.pv (PV.sl ns.nil (szc 1 ns.l) (List.map intE ns.l))), (5, AV.ptr 0 0), (6, AV.pv (PV.int IntKind.i64 i)), (7, AV.pv (PV.int IntKind.i64 up)), (8, AV.pv (PV.int IntKind.i64 k))], [(0, Blk.box [AV.pv (PV.int IntKind.i64 in_), AV.pv (PV.int IntKind.i64 in_2), AV.row 1 r1_.length 0 r1_.length]), (1, Blk.row r1_.isEmpty (szc 18 r1_) (List.map T.Stop.enc r1_))], 2⟩ = some (Ex.normal, ⟨[(0, AV.pv (PV.sl ups.nil (szc 1 ups.l) (List.map intE ups.l))), (1, AV.pv (PV.sl ns.nil (szc 1 ns.l) (List.map intE ns.l))), (5, AV.ptr 0 0), (6, AV.pv (PV.int IntKind.i64 i)), (7, AV.pv (PV.int IntKind.i64 r))], [(0, Blk.box [AV.pv (PV.int IntKind.i64 in_), AV.pv (PV.int IntKind.i64 in_2), AV.row 1 r1_.length 0 r1_.length]), (1, Blk.row r1_.isEmpty (szc 18 r1_) (List.map T.Stop.enc r1_))], 2⟩) := by
  refine law26_StopsRings_L2.partial_correctness (fun p r => O.loop 4 2 ⟨[(0, AV.pv (PV.sl p.1.nil (szc 1 p.1.l) (List.map intE p.1.l))), (1, AV.pv (PV.sl p.2.1.nil (szc 1 p.2.1.l) (List.map intE p.2.1.l))), (5, AV.ptr 0 0), (6, AV.pv (PV.int IntKind.i64 p.2.2.1)), (7, AV.pv (PV.int IntKind.i64 p.2.2.2.1)), (8, AV.pv (PV.int IntKind.i64 p.2.2.2.2.1))], [(0, Blk.box [AV.pv (PV.int IntKind.i64 p.2.2.2.2.2.1), AV.pv (PV.int IntKind.i64 p.2.2.2.2.2.2.1), AV.row 1 p.2.2.2.2.2.2.2.length 0 p.2.2.2.2.2.2.2.length]), (1, Blk.row p.2.2.2.2.2.2.2.isEmpty (szc 18 p.2.2.2.2.2.2.2) (List.map T.Stop.enc p.2.2.2.2.2.2.2))], 2⟩ = some (Ex.normal, ⟨[(0, AV.pv (PV.sl p.1.nil (szc 1 p.1.l) (List.map intE p.1.l))), (1, AV.pv (PV.sl p.2.1.nil (szc 1 p.2.1.l) (List.map intE p.2.1.l))), (5, AV.ptr 0 0), (6, AV.pv (PV.int IntKind.i64 p.2.2.1)), (7, AV.pv (PV.int IntKind.i64 r))], [(0, Blk.box [AV.pv (PV.int IntKind.i64 p.2.2.2.2.2.1), AV.pv (PV.int IntKind.i64 p.2.2.2.2.2.2.1), AV.row 1 p.2.2.2.2.2.2.2.length 0 p.2.2.2.2.2.2.2.length]), (1, Blk.row p.2.2.2.2.2.2.2.isEmpty (szc 18 p.2.2.2.2.2.2.2) (List.map T.Stop.enc p.2.2.2.2.2.2.2))], 2⟩)) ?_ (ups, ns, i, up, k, in_, in_2, r1_) r h
  clear h r ups ns i up k in_ in_2 r1_
  intro law26_StopsRings_L2 ih3
  rintro ⟨ups, ns, i, up, k, in_, in_2, r1_⟩ r h
  dsimp only at h ⊢
  obtain ⟨x2, h1, h⟩ := Option.bind_eq_some_iff.1 h
  have f1 := geti_nat h1 IntKind.i64
  have f2 := geti_map intE h1
  try simp only [intE, encx.down, Nat.zero_add, Nat.reduceAdd] at f2
  have f3 := geti_szcT h1 1
  obtain ⟨v4, h3, h⟩ := Option.bind_eq_some_iff.1 h
  have f4 := law0_Low_ok h3
  try simp only [encx.down, Nat.zero_add, Nat.reduceAdd] at f4
  by_cases g5 : ((decide (k < v4)) && (decide (up ≥ (0 : Int)))) = true
  rw [if_pos g5] at h
  rcases (by intro u0 u1; cases u0 <;> cases u1 <;> simp [Dum] : ∀ u0 u1 : Bool, (u0 && u1) = true → (u0 = true ∧ u1 = true)) (decide (k < v4)) (decide (up ≥ (0 : Int))) g5 with ⟨h5, h6⟩
  clear g5
  obtain ⟨x8, h7, h⟩ := Option.bind_eq_some_iff.1 h
  have f6 := geti_nat h7 IntKind.i64
  have f7 := geti_map T.Stop.enc h7
  try simp only [T.Stop.enc_eq, encx.down, Nat.zero_add, Nat.reduceAdd] at f7
  have f8 := geti_lt h7
  have f9 := geti_ne h7
  have f10 := geti_szc h7 18
  try simp only [f9, f10] at f4
  have f11 := ih3 _ _ h
  try dsimp only at f11
  try simp only [T.Inst.enc_eq, T.Stop.enc_eq, intE, encx.down, Nat.zero_add, Nat.reduceAdd, f9, f10] at f11
  clear h
  try simp only [f9, f10] at f11
  clear ih3
  rotate_left
  focus
    rw [if_neg g5] at h; replace g5 := Bool.eq_false_iff.2 g5
    rcases (by intro u0 u1; cases u0 <;> cases u1 <;> simp [Dum] : ∀ u0 u1 : Bool, (u0 && u1) = false → (u0 = false ∧ Dum) ∨ (u0 = true ∧ u1 = false)) (decide (k < v4)) (decide (up ≥ (0 : Int))) g5 with ⟨h5, h6⟩ | ⟨h5, h6⟩
    clear g5
    all_goals
      cases h
      clear ih3
      rotate_left
  rotate_left 2
  all_goals
    refine omega_L fn4 (by rfl) ?_
    simp (disch := first | assumption | rfl | exact Sure.mk (by kernel_rfl)) only [coreG.down, tab.down, ↓reduceIte, Nat.reduceLeDiff, Nat.reduceEqDiff, Nat.reduceLT, Nat.reduceAdd, Nat.reduceSub, Nat.reduceMul, reduceCtorEq, Nat.reducePow, needs, aop, aBin, intBin, aLoad, List.toList_toArray, avOf, pvOf, allPV, List.take, List.drop, List.length_cons, List.length_nil, List.length_map, aStore, AV.stor, AV.cells, List.append, aFieldAddr, List.getElem?_cons_zero, List.getElem?_cons_succ, subHeap, AV.refs, AV.ren, AV.rows, if_true, if_false, List.nil_append, List.append_nil, List.cons_append, tupled, unz, aBuiltin, lenTd, aLen, ptrRows, List.getElem?_nil, touched, List.isEmpty_nil, Option.some.injEq, aUn, pure?, PV.cells, List.replicate, List.set_cons_zero, List.set_cons_succ, aConvert, strBin, sliceOf, eq_self, AV.thaw, Blk.thaw, aSlice, aNil, isNilV, aEq, plainEq, fitAll, keyFits, aMax, maxFrom, aPart, Blk.ren, Blk.refs, List.flatMap_nil, List.flatMap_cons, List.map_cons, List.map_nil, List.drop_zero, Option.isSome_none, Option.isNone_none, Option.isSome_some, Option.isNone_some, sp4_0, sp4_2, T.Inst.enc_eq, T.Stop.enc_eq, intE, *]
set_option maxHeartbeats 4000000 in
theorem law26_StopsRings_L0_ok {ups : (Sl Int)} {ns : (Sl Int)} {i : Int} {in_ : Int} {in_2 : Int} {r1_ : (List T.Stop)} {r : ((List T.Stop))} (h : law26_StopsRings_L0 (ups, ns, i, in_, in_2, r1_) = some r) :
    O.loop 4 0 ⟨[(0, AV.pv (PV.sl ups.nil (szc 1 ups.l) (List.map intE ups.l))), (1, AV.pv (PV.sl ns.nil (szc 1 ns.l) (List.map intE ns.l))), (5, AV.ptr 0 0), (6, AV.pv (PV.int IntKind.i64 i))], [(0, Blk.box [AV.pv (PV.int IntKind.i64 in_), AV.pv (PV.int IntKind.i64 in_2), AV.row 1 r1_.length 0 r1_.length]), (1, Blk.row r1_.isEmpty (szc 18 r1_) (List.map T.Stop.enc r1_))], 2⟩ = some (Ex.normal, ⟨[(5, AV.ptr 0 0)], [(0, Blk.box [AV.pv (PV.int IntKind.i64 in_), AV.pv (PV.int IntKind.i64 in_2), AV.row 1 r.length 0 r.length]), (1, Blk.row r.isEmpty (szc 18 r) (List.map T.Stop.enc r))], 2⟩) := by
  refine law26_StopsRings_L0.partial_correctness (fun p r => O.loop 4 0 ⟨[(0, AV.pv (PV.sl p.1.nil (szc 1 p.1.l) (List.map intE p.1.l))), (1, AV.pv (PV.sl p.2.1.nil (szc 1 p.2.1.l) (List.map intE p.2.1.l))), (5, AV.ptr 0 0), (6, AV.pv (PV.int IntKind.i64 p.2.2.1))], [(0, Blk.box [AV.pv (PV.int IntKind.i64 p.2.2.2.1), AV.pv (PV.int IntKind.i64 p.2.2.2.2.1), AV.row 1 p.2.2.2.2.2.length 0 p.2.2.2.2.2.length]), (1, Blk.row p.2.2.2.2.2.isEmpty (szc 18 p.2.2.2.2.2) (List.map T.Stop.enc p.2.2.2.2.2))], 2⟩ = some (Ex.normal, ⟨[(5, AV.ptr 0 0)], [(0, Blk.box [AV.pv (PV.int IntKind.i64 p.2.2.2.1), AV.pv (PV.int IntKind.i64 p.2.2.2.2.1), AV.row 1 r.length 0 r.length]), (1, Blk.row r.isEmpty (szc 18 r) (List.map T.Stop.enc r))], 2⟩)) ?_ (ups, ns, i, in_, in_2, r1_) r h
  clear h r ups ns i in_ in_2 r1_
  intro law26_StopsRings_L0 ih2
  rintro ⟨ups, ns, i, in_, in_2, r1_⟩ r h
  dsimp only at h ⊢
  by_cases g1 : ((decide (i < (ups.l.length : Int))) && (decide (i < (ns.l.length : Int)))) = true
  rw [if_pos g1] at h
  rcases (by intro u0 u1; cases u0 <;> cases u1 <;> simp [Dum] : ∀ u0 u1 : Bool, (u0 && u1) = true → (u0 = true ∧ u1 = true)) (decide (i < (ups.l.length : Int))) (decide (i < (ns.l.length : Int))) g1 with ⟨h1, h2⟩
  clear g1
  obtain ⟨v4, h3, h⟩ := Option.bind_eq_some_iff.1 h
  have f2 := law26_StopsRings_L2_ok h3
  try simp only [T.Inst.enc_eq, T.Stop.enc_eq, intE, encx.down, Nat.zero_add, Nat.reduceAdd] at f2
  obtain ⟨x6, h5, h⟩ := Option.bind_eq_some_iff.1 h
  have f3 := geti_nat h5 IntKind.i64
  have f4 := geti_map intE h5
  try simp only [intE, encx.down, Nat.zero_add, Nat.reduceAdd] at f4
  have f5 := geti_szcT h5 1
  obtain ⟨v8, h7, h⟩ := Option.bind_eq_some_iff.1 h
  have f6 := law0_Low_ok h7
  try simp only [encx.down, Nat.zero_add, Nat.reduceAdd] at f6
  obtain ⟨v10, h9, h⟩ := Option.bind_eq_some_iff.1 h
  have f7 := law0_Low_ok h9
  try simp only [encx.down, Nat.zero_add, Nat.reduceAdd] at f7
  by_cases h11 : ¬ (roomOK (r1_.length + 1) 200 = true)
  rw [if_neg h11] at h; cases h
  replace h11 := Decidable.of_not_not h11; rw [if_pos h11] at h
  have f8 := h11
  have f9 := fun te β nx c0 (h1 : 18 = te.size) (h2 : roomOK (r1_.length + 1) te.bytes = true) => rowApp_G te β 18 nx T.Stop.enc r1_ c0 [] h1 h2
  have f10 : List.map T.Stop.enc r1_ ++ [[PV.int IntKind.i64 in_, PV.int IntKind.i64 in_2, PV.int IntKind.i64 v8, PV.int IntKind.i64 v4, PV.bool false, PV.bool (v10 == (6 : Int)), PV.int IntKind.i64 (0 : Int), PV.str ([] : Bytes), PV.bool false, PV.sl true 0 [], PV.int IntKind.i64 (0 : Int), PV.int IntKind.i64 (0 : Int), PV.bool false, PV.sl true 0 [], PV.sl true 0 [], PV.bool false, PV.bool false, PV.sl true 0 []]] = List.map T.Stop.enc (r1_ ++ [(T.Stop.mk (T.Span.mk in_ in_2) v8 v4 false (v10 == (6 : Int)) (T.Form.mk (T.Rx.mk (0 : Int) ([] : Bytes) false (⟨true, []⟩ : (Sl T.Row)) (0 : Int) (0 : Int) false (⟨true, []⟩ : (Sl T.Rx))) (⟨true, []⟩ : (Sl T.Fmt)) false false) (⟨true, []⟩ : (Sl Bytes)))]) := by simp only [List.map_append, List.map_cons, List.map_nil, u8_nat, u8_wrap, szc_nil, T.Stop.enc_eq]
  have f11 := ih2 _ _ h
  try dsimp only at f11
  try simp only [T.Inst.enc_eq, T.Stop.enc_eq, intE, encx.down, Nat.zero_add, Nat.reduceAdd] at f11
  clear h
  clear ih2
  rotate_left
  focus
    rw [if_neg g1] at h; replace g1 := Bool.eq_false_iff.2 g1
    rcases (by intro u0 u1; cases u0 <;> cases u1 <;> simp [Dum] : ∀ u0 u1 : Bool, (u0 && u1) = false → (u0 = false ∧ Dum) ∨ (u0 = true ∧ u1 = false)) (decide (i < (ups.l.length : Int))) (decide (i < (ns.l.length : Int))) g1 with ⟨h1, h2⟩ | ⟨h1, h2⟩
    clear g1
    all_goals
      cases h
      clear ih2
      rotate_left
  rotate_left 2
  all_goals
    refine omega_L fn4 (by rfl) ?_
    simp (disch := first | assumption | rfl | exact Sure.mk (by kernel_rfl)) only [coreG.down, tab.down, ↓reduceIte, Nat.reduceLeDiff, Nat.reduceEqDiff, Nat.reduceLT, Nat.reduceAdd, Nat.reduceSub, Nat.reduceMul, reduceCtorEq, Nat.reducePow, needs, aop, aBin, intBin, aLoad, List.toList_toArray, avOf, pvOf, allPV, List.take, List.drop, List.length_cons, List.length_nil, List.length_map, aStore, AV.stor, AV.cells, List.append, aFieldAddr, List.getElem?_cons_zero, List.getElem?_cons_succ, subHeap, AV.refs, AV.ren, AV.rows, if_true, if_false, List.nil_append, List.append_nil, List.cons_append, tupled, unz, aBuiltin, lenTd, aLen, ptrRows, List.getElem?_nil, touched, List.isEmpty_nil, Option.some.injEq, aUn, pure?, PV.cells, List.replicate, List.set_cons_zero, List.set_cons_succ, aConvert, strBin, sliceOf, eq_self, AV.thaw, Blk.thaw, aSlice, aNil, isNilV, aEq, plainEq, fitAll, keyFits, aMax, maxFrom, aPart, Blk.ren, Blk.refs, List.flatMap_nil, List.flatMap_cons, List.map_cons, List.map_nil, List.drop_zero, Option.isSome_none, Option.isNone_none, Option.isSome_some, Option.isNone_some, sp4_0, sp4_2, T.Inst.enc_eq, T.Stop.enc_eq, intE, *]
set_option maxHeartbeats 4000000 in
theorem span_May_ok {s : T.Span} {n : Int} {r : (Bool)} (h : span_May s n = some r) :
    O.call 26 [AV.pv (PV.agg (T.Span.enc s)), AV.pv (PV.int IntKind.i64 n)] [] = some (AV.pv (PV.bool r), []) := by
  unfold span_May at h
  by_cases g1 : ((decide (s.frm ≥ (0 : Int))) && (decide (s.frm ≤ s.to))) = true
  rw [if_pos g1] at h
  rcases (by intro u0 u1; cases u0 <;> cases u1 <;> simp [Dum] : ∀ u0 u1 : Bool, (u0 && u1) = true → (u0 = true ∧ u1 = true)) (decide (s.frm ≥ (0 : Int))) (decide (s.frm ≤ s.to)) g1 with ⟨h1, h2⟩
  clear g1
  cases h
  rotate_left
  focus
    rw [if_neg g1] at h; replace g1 := Bool.eq_false_iff.2 g1
    rcases (by intro u0 u1; cases u0 <;> cases u1 <;> simp [Dum] : ∀ u0 u1 : Bool, (u0 && u1) = false → (u0 = false ∧ Dum) ∨ (u0 = true ∧ u1 = false)) (decide (s.frm ≥ (0 : Int))) (decide (s.frm ≤ s.to)) g1 with ⟨h1, h2⟩ | ⟨h1, h2⟩
    clear g1
    all_goals
      cases h
      rotate_left
  rotate_left 2
  all_goals
    refine omega_F rfl fn26 (by rfl) (by rfl) rfl ?_
    simp (disch := first | assumption | rfl | exact Sure.mk (by kernel_rfl)) only [coreG.down, tab.down, ↓reduceIte, Nat.reduceLeDiff, Nat.reduceEqDiff, Nat.reduceLT, Nat.reduceAdd, Nat.reduceSub, Nat.reduceMul, reduceCtorEq, Nat.reducePow, needs, aop, aBin, intBin, aLoad, List.toList_toArray, avOf, pvOf, allPV, List.take, List.drop, List.length_cons, List.length_nil, List.length_map, aStore, AV.stor, AV.cells, List.append, aFieldAddr, List.getElem?_cons_zero, List.getElem?_cons_succ, subHeap, AV.refs, AV.ren, AV.rows, if_true, if_false, List.nil_append, List.append_nil, List.cons_append, tupled, unz, aBuiltin, lenTd, aLen, ptrRows, List.getElem?_nil, touched, List.isEmpty_nil, Option.some.injEq, aUn, pure?, PV.cells, List.replicate, List.set_cons_zero, List.set_cons_succ, aConvert, strBin, sliceOf, eq_self, AV.thaw, Blk.thaw, aSlice, aNil, isNilV, aEq, plainEq, fitAll, keyFits, aMax, maxFrom, aPart, Blk.ren, Blk.refs, List.flatMap_nil, List.flatMap_cons, List.map_cons, List.map_nil, List.drop_zero, Option.isSome_none, Option.isNone_none, Option.isSome_some, Option.isNone_some, T.Span.enc_eq, *]
set_option maxHeartbeats 4000000 in
theorem stops_up_ok {i : T.Inst} {k : Int} {r : (Int)} (h : stops_up i k = some r) :
    O.call 43 [AV.pv (PV.agg (T.Inst.enc i)), AV.pv (PV.int IntKind.i64 k)] [] = some (AV.pv (PV.int IntKind.i64 r), []) := by
  unfold stops_up at h
  obtain ⟨x2, h1, h⟩ := Option.bind_eq_some_iff.1 h
  have f1 := geti_nat h1 IntKind.i64
  have f2 := geti_map T.Stop.enc h1
  try simp only [T.Stop.enc_eq, encx.down, Nat.zero_add, Nat.reduceAdd] at f2
  have f3 := geti_szcT h1 18
  by_cases g4 : ((decide (x2.up ≥ (0 : Int))) && (decide (x2.up < k))) = true
  rw [if_pos g4] at h
  rcases (by intro u0 u1; cases u0 <;> cases u1 <;> simp [Dum] : ∀ u0 u1 : Bool, (u0 && u1) = true → (u0 = true ∧ u1 = true)) (decide (x2.up ≥ (0 : Int))) (decide (x2.up < k)) g4 with ⟨h3, h4⟩
  clear g4
  cases h
  rotate_left
  focus
    rw [if_neg g4] at h; replace g4 := Bool.eq_false_iff.2 g4
    rcases (by intro u0 u1; cases u0 <;> cases u1 <;> simp [Dum] : ∀ u0 u1 : Bool, (u0 && u1) = false → (u0 = false ∧ Dum) ∨ (u0 = true ∧ u1 = false)) (decide (x2.up ≥ (0 : Int))) (decide (x2.up < k)) g4 with ⟨h3, h4⟩ | ⟨h3, h4⟩
    clear g4
    all_goals
      cases h
      rotate_left
  rotate_left 2
  all_goals
    refine omega_F rfl fn43 (by rfl) (by rfl) rfl ?_
    simp (disch := first | assumption | rfl | exact Sure.mk (by kernel_rfl)) only [coreG.down, tab.down, ↓reduceIte, Nat.reduceLeDiff, Nat.reduceEqDiff, Nat.reduceLT, Nat.reduceAdd, Nat.reduceSub, Nat.reduceMul, reduceCtorEq, Nat.reducePow, needs, aop, aBin, intBin, aLoad, List.toList_toArray, avOf, pvOf, allPV, List.take, List.drop, List.length_cons, List.length_nil, List.length_map, aStore, AV.stor, AV.cells, List.append, aFieldAddr, List.getElem?_cons_zero, List.getElem?_cons_succ, subHeap, AV.refs, AV.ren, AV.rows, if_true, if_false, List.nil_append, List.append_nil, List.cons_append, tupled, unz, aBuiltin, lenTd, aLen, ptrRows, List.getElem?_nil, touched, List.isEmpty_nil, Option.some.injEq, aUn, pure?, PV.cells, List.replicate, List.set_cons_zero, List.set_cons_succ, aConvert, strBin, sliceOf, eq_self, AV.thaw, Blk.thaw, aSlice, aNil, isNilV, aEq, plainEq, fitAll, keyFits, aMax, maxFrom, aPart, Blk.ren, Blk.refs, List.flatMap_nil, List.flatMap_cons, List.map_cons, List.map_nil, List.drop_zero, Option.isSome_none, Option.isNone_none, Option.isSome_some, Option.isNone_some, T.Inst.enc_eq, *]
def stops_placed_L0_enc (k : Int) (i : T.Inst) : ((Bool) ⊕ (Unit)) → Ex × St
  | .inl y => (Ex.ret, ⟨[(1, AV.pv (PV.int IntKind.i64 k)), (2, AV.ptr 0 0), (4, AV.pv (PV.bool y))], [(0, Blk.box (List.map AV.pv (T.Inst.enc i)))], 1⟩)
  | .inr y => (Ex.normal, ⟨[(1, AV.pv (PV.int IntKind.i64 k)), (2, AV.ptr 0 0), (4, AV.undef)], [(0, Blk.box (List.map AV.pv (T.Inst.enc i)))], 1⟩)
set_option maxHeartbeats 4000000 in
theorem stops_placed_L0_ok {k : Int} {u : Int} {i : T.Inst} {r : ((Bool) ⊕ (Unit))} (h : stops_placed_L0 (k, u, i) = some r) :
    O.loop 27 0 ⟨[(1, AV.pv (PV.int IntKind.i64 k)), (2, AV.ptr 0 0), (5, AV.pv (PV.int IntKind.i64 u))], [(0, Blk.box (List.map AV.pv (T.Inst.enc i)))], 1⟩ = some (stops_placed_L0_enc k i r) := by
  refine stops_placed_L0.partial_correctness (fun p r => O.loop 27 0 ⟨[(1, AV.pv (PV.int IntKind.i64 p.1)), (2, AV.ptr 0 0), (5, AV.pv (PV.int IntKind.i64 p.2.1))], [(0, Blk.box (List.map AV.pv (T.Inst.enc p.2.2)))], 1⟩ = some (stops_placed_L0_enc p.1 p.2.2 r)) ?_ (k, u, i) r h
  clear h r k u i
  intro stops_placed_L0 ih9
  rintro ⟨k, u, i⟩ r h
  dsimp only at h ⊢
  by_cases h1 : (decide (u ≥ (0 : Int))) = true
  rw [if_pos h1] at h
  obtain ⟨x3, h2, h⟩ := Option.bind_eq_some_iff.1 h
  have f1 := geti_nat h2 IntKind.i64
  have f2 := geti_map T.Stop.enc h2
  try simp only [T.Stop.enc_eq, encx.down, Nat.zero_add, Nat.reduceAdd] at f2
  have f3 := geti_szcT h2 18
  by_cases h4 : (x3.up == u) = true
  rw [if_pos h4] at h
  cases h
  show _ = some (stops_placed_L0_enc _ _ (.inl _))
  dsimp only [stops_placed_L0_enc]
  clear ih9
  rotate_left
  rw [if_neg h4] at h; replace h4 := Bool.eq_false_iff.2 h4
  obtain ⟨v6, h5, h⟩ := Option.bind_eq_some_iff.1 h
  have f4 := stops_up_ok h5
  try simp only [T.Inst.enc_eq, encx.down, Nat.zero_add, Nat.reduceAdd] at f4
  have f5 := ih9 _ _ h
  try dsimp only at f5
  try simp only [T.Inst.enc_eq, encx.down, Nat.zero_add, Nat.reduceAdd] at f5
  clear h
  clear ih9
  rotate_left
  rw [if_neg h1] at h; replace h1 := Bool.eq_false_iff.2 h1
  cases h
  show _ = some (stops_placed_L0_enc _ _ (.inr _))
  dsimp only [stops_placed_L0_enc]
  clear ih9
  rotate_left
  all_goals
    refine omega_L fn27 (by rfl) ?_
    simp (disch := first | assumption | rfl | exact Sure.mk (by kernel_rfl)) only [coreG.down, tab.down, ↓reduceIte, Nat.reduceLeDiff, Nat.reduceEqDiff, Nat.reduceLT, Nat.reduceAdd, Nat.reduceSub, Nat.reduceMul, reduceCtorEq, Nat.reducePow, needs, aop, aBin, intBin, aLoad, List.toList_toArray, avOf, pvOf, allPV, List.take, List.drop, List.length_cons, List.length_nil, List.length_map, aStore, AV.stor, AV.cells, List.append, aFieldAddr, List.getElem?_cons_zero, List.getElem?_cons_succ, subHeap, AV.refs, AV.ren, AV.rows, if_true, if_false, List.nil_append, List.append_nil, List.cons_append, tupled, unz, aBuiltin, lenTd, aLen, ptrRows, List.getElem?_nil, touched, List.isEmpty_nil, Option.some.injEq, aUn, pure?, PV.cells, List.replicate, List.set_cons_zero, List.set_cons_succ, aConvert, strBin, sliceOf, eq_self, AV.thaw, Blk.thaw, aSlice, aNil, isNilV, aEq, plainEq, fitAll, keyFits, aMax, maxFrom, aPart, Blk.ren, Blk.refs, List.flatMap_nil, List.flatMap_cons, List.map_cons, List.map_nil, List.drop_zero, Option.isSome_none, Option.isNone_none, Option.isSome_some, Option.isNone_some, sp27_0, T.Inst.enc_eq, *]
set_option maxHeartbeats 4000000 in
theorem stops_placed_ok {i : T.Inst} {k : Int} {r : (Bool)} (h : stops_placed i k = some r) :
    O.call 27 [AV.pv (PV.agg (T.Inst.enc i)), AV.pv (PV.int IntKind.i64 k)] [] = some (AV.pv (PV.bool r), []) := by
  unfold stops_placed at h
  obtain ⟨v2, h1, h⟩ := Option.bind_eq_some_iff.1 h
  have f1 := stops_placed_L0_ok h1
  try simp only [T.Inst.enc_eq, encx.down, Nat.zero_add, Nat.reduceAdd] at f1
  rcases v2 with y3 | y4
  dsimp only at h
  simp only [stops_placed_L0_enc, T.Inst.enc_eq, encx.down, Nat.zero_add, Nat.reduceAdd] at f1
  cases h
  rotate_left
  dsimp only at h
  simp only [stops_placed_L0_enc, T.Inst.enc_eq, encx.down, Nat.zero_add, Nat.reduceAdd] at f1
  obtain ⟨x6, h5, h⟩ := Option.bind_eq_some_iff.1 h
  have f2 := geti_nat h5 IntKind.i64
  have f3 := geti_map T.Stop.enc h5
  try simp only [T.Stop.enc_eq, encx.down, Nat.zero_add, Nat.reduceAdd] at f3
  have f4 := geti_szcT h5 18
  cases h
  rotate_left
  all_goals
    refine omega_F rfl fn27 (by rfl) (by rfl) rfl ?_
    simp (disch := first | assumption | rfl | exact Sure.mk (by kernel_rfl)) only [coreG.down, tab.down, ↓reduceIte, Nat.reduceLeDiff, Nat.reduceEqDiff, Nat.reduceLT, Nat.reduceAdd, Nat.reduceSub, Nat.reduceMul, reduceCtorEq, Nat.reducePow, needs, aop, aBin, intBin, aLoad, List.toList_toArray, avOf, pvOf, allPV, List.take, List.drop, List.length_cons, List.length_nil, List.length_map, aStore, AV.stor, AV.cells, List.append, aFieldAddr, List.getElem?_cons_zero, List.getElem?_cons_succ, subHeap, AV.refs, AV.ren, AV.rows, if_true, if_false, List.nil_append, List.append_nil, List.cons_append, tupled, unz, aBuiltin, lenTd, aLen, ptrRows, List.getElem?_nil, touched, List.isEmpty_nil, Option.some.injEq, aUn, pure?, PV.cells, List.replicate, List.set_cons_zero, List.set_cons_succ, aConvert, strBin, sliceOf, eq_self, AV.thaw, Blk.thaw, aSlice, aNil, isNilV, aEq, plainEq, fitAll, keyFits, aMax, maxFrom, aPart, Blk.ren, Blk.refs, List.flatMap_nil, List.flatMap_cons, List.map_cons, List.map_nil, List.drop_zero, Option.isSome_none, Option.isNone_none, Option.isSome_some, Option.isNone_some, sp27_0, T.Inst.enc_eq, *]
set_option maxHeartbeats 4000000 in
theorem span_Within_ok {a : T.Span} {b : T.Span} {r : (Bool)} (h : span_Within a b = some r) :
    O.call 28 [AV.pv (PV.agg (T.Span.enc a)), AV.pv (PV.agg (T.Span.enc b))] [] = some (AV.pv (PV.bool r), []) := by
  unfold span_Within at h
  by_cases h1 : (decide (a.frm ≥ b.frm)) = true
  rw [if_pos h1] at h
  cases h
  rotate_left
  rw [if_neg h1] at h; replace h1 := Bool.eq_false_iff.2 h1
  cases h
  rotate_left
  all_goals
    refine omega_F rfl fn28 (by rfl) (by rfl) rfl ?_
    simp (disch := first | assumption | rfl | exact Sure.mk (by kernel_rfl)) only [coreG.down, tab.down, ↓reduceIte, Nat.reduceLeDiff, Nat.reduceEqDiff, Nat.reduceLT, Nat.reduceAdd, Nat.reduceSub, Nat.reduceMul, reduceCtorEq, Nat.reducePow, needs, aop, aBin, intBin, aLoad, List.toList_toArray, avOf, pvOf, allPV, List.take, List.drop, List.length_cons, List.length_nil, List.length_map, aStore, AV.stor, AV.cells, List.append, aFieldAddr, List.getElem?_cons_zero, List.getElem?_cons_succ, subHeap, AV.refs, AV.ren, AV.rows, if_true, if_false, List.nil_append, List.append_nil, List.cons_append, tupled, unz, aBuiltin, lenTd, aLen, ptrRows, List.getElem?_nil, touched, List.isEmpty_nil, Option.some.injEq, aUn, pure?, PV.cells, List.replicate, List.set_cons_zero, List.set_cons_succ, aConvert, strBin, sliceOf, eq_self, AV.thaw, Blk.thaw, aSlice, aNil, isNilV, aEq, plainEq, fitAll, keyFits, aMax, maxFrom, aPart, Blk.ren, Blk.refs, List.flatMap_nil, List.flatMap_cons, List.map_cons, List.map_nil, List.drop_zero, Option.isSome_none, Option.isNone_none, Option.isSome_some, Option.isNone_some, T.Span.enc_eq, *]
def stops_May_L0_enc (i : T.Inst) : ((Bool × MapII) ⊕ (MapII)) → Ex × St
  | .inl y => (Ex.ret, ⟨[(4, AV.pv (PV.bool y.1))], [(0, Blk.box (List.map AV.pv (T.Inst.enc i))), (1, Blk.map (List.map entE y.2.es) y.2.clock)], 2⟩)
  | .inr y => (Ex.normal, ⟨[(4, AV.undef)], [(0, Blk.box (List.map AV.pv (T.Inst.enc i))), (1, Blk.map (List.map entE y.es) y.clock)], 2⟩)
set_option maxHeartbeats 4000000 in
theorem stops_May_L0_ok {t18 : (Sl T.Stop)} {t19 : Int} {t20 : Int} {i : T.Inst} {ends : MapII} {r : ((Bool × MapII) ⊕ (MapII))} (h : stops_May_L0 (t18, t19, t20, i, ends) = some r) :
    O.loop 8 0 ⟨[(2, AV.ptr 0 0), (5, AV.map 1), (18, AV.pv (PV.sl t18.nil (szc 18 t18.l) (List.map T.Stop.enc t18.l))), (19, AV.pv (PV.int IntKind.i64 t19)), (20, AV.pv (PV.int IntKind.i64 t20))], [(0, Blk.box (List.map AV.pv (T.Inst.enc i))), (1, Blk.map (List.map entE ends.es) ends.clock)], 2⟩ = some (stops_May_L0_enc i r) := by
  refine stops_May_L0.partial_correctness (fun p r => O.loop 8 0 ⟨[(2, AV.ptr 0 0), (5, AV.map 1), (18, AV.pv (PV.sl p.1.nil (szc 18 p.1.l) (List.map T.Stop.enc p.1.l))), (19, AV.pv (PV.int IntKind.i64 p.2.1)), (20, AV.pv (PV.int IntKind.i64 p.2.2.1))], [(0, Blk.box (List.map AV.pv (T.Inst.enc p.2.2.2.1))), (1, Blk.map (List.map entE p.2.2.2.2.es) p.2.2.2.2.clock)], 2⟩ = some (stops_May_L0_enc p.2.2.2.1 r)) ?_ (t18, t19, t20, i, ends) r h
  clear h r t18 t19 t20 i ends
  intro stops_May_L0 ih7
  rintro ⟨t18, t19, t20, i, ends⟩ r h
  dsimp only at h ⊢
  by_cases h1 : (decide (t20 < t19)) = true
  rw [if_pos h1] at h
  obtain ⟨x3, h2, h⟩ := Option.bind_eq_some_iff.1 h
  have f1 := geti_nat h2 IntKind.i64
  have f2 := geti_map T.Stop.enc h2
  try simp only [T.Stop.enc_eq, encx.down, Nat.zero_add, Nat.reduceAdd] at f2
  have f3 := geti_szcT h2 18
  obtain ⟨v5, h4, h⟩ := Option.bind_eq_some_iff.1 h
  have f4 := stops_placed_ok h4
  try simp only [T.Inst.enc_eq, encx.down, Nat.zero_add, Nat.reduceAdd] at f4
  by_cases g5 : ((!v5) || (decide (x3.span.frm > x3.span.to))) = true
  focus
    rw [if_pos g5] at h
    rcases (by intro u0 u1; cases u0 <;> cases u1 <;> simp [Dum] : ∀ u0 u1 : Bool, (u0 || u1) = true → (u0 = true ∧ Dum) ∨ (u0 = false ∧ u1 = true)) (!v5) (decide (x3.span.frm > x3.span.to)) g5 with ⟨h6, h7⟩ | ⟨h6, h7⟩
    clear g5
    all_goals
      cases h
      show _ = some (stops_May_L0_enc _ (.inl _))
      dsimp only [stops_May_L0_enc]
      clear ih7
      rotate_left
  rotate_left 2
  rw [if_neg g5] at h; replace g5 := Bool.eq_false_iff.2 g5
  rcases (by intro u0 u1; cases u0 <;> cases u1 <;> simp [Dum] : ∀ u0 u1 : Bool, (u0 || u1) = false → (u0 = false ∧ u1 = false)) (!v5) (decide (x3.span.frm > x3.span.to)) g5 with ⟨h6, h7⟩
  clear g5
  by_cases h8 : (decide (x3.up ≥ (0 : Int))) = true
  rw [if_pos h8] at h
  obtain ⟨x10, h9, h⟩ := Option.bind_eq_some_iff.1 h
  have f6 := geti_nat h9 IntKind.i64
  have f7 := geti_map T.Stop.enc h9
  try simp only [T.Stop.enc_eq, encx.down, Nat.zero_add, Nat.reduceAdd] at f7
  have f8 := geti_szcT h9 18
  have f9 := fun b => mii_get2 b ends x3.up
  try simp only [encx.down, Nat.zero_add, Nat.reduceAdd] at f9
  obtain ⟨v12, h11, h⟩ := Option.bind_eq_some_iff.1 h
  have f10 := span_Within_ok h11
  try simp only [T.Span.enc_eq, encx.down, Nat.zero_add, Nat.reduceAdd] at f10
  by_cases g11 : ((!v12) || ((mhas ends x3.up) && (decide (x3.span.frm < (mget ends x3.up))))) = true
  focus
    rw [if_pos g11] at h
    rcases (by intro u0 u1 u2; cases u0 <;> cases u1 <;> cases u2 <;> simp [Dum] : ∀ u0 u1 u2 : Bool, (u0 || (u1 && u2)) = true → (u0 = true ∧ Dum ∧ Dum) ∨ (u0 = false ∧ u1 = true ∧ u2 = true)) (!v12) (mhas ends x3.up) (decide (x3.span.frm < (mget ends x3.up))) g11 with ⟨h13, h14, h15⟩ | ⟨h13, h14, h15⟩
    clear g11
    all_goals
      cases h
      show _ = some (stops_May_L0_enc _ (.inl _))
      dsimp only [stops_May_L0_enc]
      clear ih7
      rotate_left
  rotate_left 2
  focus
    rw [if_neg g11] at h; replace g11 := Bool.eq_false_iff.2 g11
    rcases (by intro u0 u1 u2; cases u0 <;> cases u1 <;> cases u2 <;> simp [Dum] : ∀ u0 u1 u2 : Bool, (u0 || (u1 && u2)) = false → (u0 = false ∧ u1 = false ∧ Dum) ∨ (u0 = false ∧ u1 = true ∧ u2 = false)) (!v12) (mhas ends x3.up) (decide (x3.span.frm < (mget ends x3.up))) g11 with ⟨h13, h14, h15⟩ | ⟨h13, h14, h15⟩
    clear g11
    all_goals
      have f12 := mii_put 1 ends x3.up x3.span.to
      try simp only [encx.down, Nat.zero_add, Nat.reduceAdd] at f12
      have f13 := ih7 _ _ h
      try dsimp only at f13
      try simp only [T.Inst.enc_eq, T.Stop.enc_eq, encx.down, Nat.zero_add, Nat.reduceAdd] at f13
      clear h
      clear ih7
      rotate_left
  rotate_left 2
  rw [if_neg h8] at h; replace h8 := Bool.eq_false_iff.2 h8
  have f14 := fun b => mii_get2 b ends x3.up
  try simp only [encx.down, Nat.zero_add, Nat.reduceAdd] at f14
  obtain ⟨v17, h16, h⟩ := Option.bind_eq_some_iff.1 h
  have f15 := span_Within_ok h16
  try simp only [T.Span.enc_eq, encx.down, Nat.zero_add, Nat.reduceAdd] at f15
  by_cases g16 : ((!v17) || ((mhas ends x3.up) && (decide (x3.span.frm < (mget ends x3.up))))) = true
  focus
    rw [if_pos g16] at h
    rcases (by intro u0 u1 u2; cases u0 <;> cases u1 <;> cases u2 <;> simp [Dum] : ∀ u0 u1 u2 : Bool, (u0 || (u1 && u2)) = true → (u0 = true ∧ Dum ∧ Dum) ∨ (u0 = false ∧ u1 = true ∧ u2 = true)) (!v17) (mhas ends x3.up) (decide (x3.span.frm < (mget ends x3.up))) g16 with ⟨h18, h19, h20⟩ | ⟨h18, h19, h20⟩
    clear g16
    all_goals
      cases h
      show _ = some (stops_May_L0_enc _ (.inl _))
      dsimp only [stops_May_L0_enc]
      clear ih7
      rotate_left
  rotate_left 2
  focus
    rw [if_neg g16] at h; replace g16 := Bool.eq_false_iff.2 g16
    rcases (by intro u0 u1 u2; cases u0 <;> cases u1 <;> cases u2 <;> simp [Dum] : ∀ u0 u1 u2 : Bool, (u0 || (u1 && u2)) = false → (u0 = false ∧ u1 = false ∧ Dum) ∨ (u0 = false ∧ u1 = true ∧ u2 = false)) (!v17) (mhas ends x3.up) (decide (x3.span.frm < (mget ends x3.up))) g16 with ⟨h18, h19, h20⟩ | ⟨h18, h19, h20⟩
    clear g16
    all_goals
      have f17 := mii_put 1 ends x3.up x3.span.to
      try simp only [encx.down, Nat.zero_add, Nat.reduceAdd] at f17
      have f18 := ih7 _ _ h
      try dsimp only at f18
      try simp only [T.Inst.enc_eq, T.Stop.enc_eq, encx.down, Nat.zero_add, Nat.reduceAdd] at f18
      clear h
      clear ih7
      rotate_left
  rotate_left 2
  rw [if_neg h1] at h; replace h1 := Bool.eq_false_iff.2 h1
  cases h
  show _ = some (stops_May_L0_enc _ (.inr _))
  dsimp only [stops_May_L0_enc]
  clear ih7
  rotate_left
  all_goals
    refine omega_L fn8 (by rfl) ?_
    simp (disch := first | assumption | rfl | exact Sure.mk (by kernel_rfl)) only [coreG.down, tab.down, ↓reduceIte, Nat.reduceLeDiff, Nat.reduceEqDiff, Nat.reduceLT, Nat.reduceAdd, Nat.reduceSub, Nat.reduceMul, reduceCtorEq, Nat.reducePow, needs, aop, aBin, intBin, aLoad, List.toList_toArray, avOf, pvOf, allPV, List.take, List.drop, List.length_cons, List.length_nil, List.length_map, aStore, AV.stor, AV.cells, List.append, aFieldAddr, List.getElem?_cons_zero, List.getElem?_cons_succ, subHeap, AV.refs, AV.ren, AV.rows, if_true, if_false, List.nil_append, List.append_nil, List.cons_append, tupled, unz, aBuiltin, lenTd, aLen, ptrRows, List.getElem?_nil, touched, List.isEmpty_nil, Option.some.injEq, aUn, pure?, PV.cells, List.replicate, List.set_cons_zero, List.set_cons_succ, aConvert, strBin, sliceOf, eq_self, AV.thaw, Blk.thaw, aSlice, aNil, isNilV, aEq, plainEq, fitAll, keyFits, aMax, maxFrom, aPart, Blk.ren, Blk.refs, List.flatMap_nil, List.flatMap_cons, List.map_cons, List.map_nil, List.drop_zero, Option.isSome_none, Option.isNone_none, Option.isSome_some, Option.isNone_some, sp8_0, T.Inst.enc_eq, T.Stop.enc_eq, *]
set_option maxHeartbeats 4000000 in
theorem stops_May_ok {i : T.Inst} {n : Int} {r : (Bool)} (h : stops_May i n = some r) :
    O.call 8 [AV.pv (PV.agg (T.Inst.enc i)), AV.pv (PV.int IntKind.i64 n)] [] = some (AV.pv (PV.bool r), []) := by
  unfold stops_May at h
  obtain ⟨v2, h1, h⟩ := Option.bind_eq_some_iff.1 h
  have f1 := span_May_ok h1
  try simp only [T.Span.enc_eq, encx.down, Nat.zero_add, Nat.reduceAdd] at f1
  by_cases h3 : (!v2) = true
  rw [if_pos h3] at h
  cases h
  rotate_left
  rw [if_neg h3] at h; replace h3 := Bool.eq_false_iff.2 h3
  obtain ⟨v5, h4, h⟩ := Option.bind_eq_some_iff.1 h
  have f2 := stops_May_L0_ok h4
  try simp only [T.Inst.enc_eq, T.Stop.enc_eq, encx.down, Nat.zero_add, Nat.reduceAdd] at f2
  rcases v5 with y6 | y7
  dsimp only at h
  simp only [stops_May_L0_enc, T.Inst.enc_eq, T.Stop.enc_eq, encx.down, Nat.zero_add, Nat.reduceAdd] at f2
  cases h
  rotate_left
  dsimp only at h
  simp only [stops_May_L0_enc, T.Inst.enc_eq, T.Stop.enc_eq, encx.down, Nat.zero_add, Nat.reduceAdd] at f2
  cases h
  rotate_left
  all_goals
    refine omega_F rfl fn8 (by rfl) (by rfl) rfl ?_
    simp (disch := first | assumption | rfl | exact Sure.mk (by kernel_rfl)) only [coreG.down, tab.down, ↓reduceIte, Nat.reduceLeDiff, Nat.reduceEqDiff, Nat.reduceLT, Nat.reduceAdd, Nat.reduceSub, Nat.reduceMul, reduceCtorEq, Nat.reducePow, needs, aop, aBin, intBin, aLoad, List.toList_toArray, avOf, pvOf, allPV, List.take, List.drop, List.length_cons, List.length_nil, List.length_map, aStore, AV.stor, AV.cells, List.append, aFieldAddr, List.getElem?_cons_zero, List.getElem?_cons_succ, subHeap, AV.refs, AV.ren, AV.rows, if_true, if_false, List.nil_append, List.append_nil, List.cons_append, tupled, unz, aBuiltin, lenTd, aLen, ptrRows, List.getElem?_nil, touched, List.isEmpty_nil, Option.some.injEq, aUn, pure?, PV.cells, List.replicate, List.set_cons_zero, List.set_cons_succ, aConvert, strBin, sliceOf, eq_self, AV.thaw, Blk.thaw, aSlice, aNil, isNilV, aEq, plainEq, fitAll, keyFits, aMax, maxFrom, aPart, Blk.ren, Blk.refs, List.flatMap_nil, List.flatMap_cons, List.map_cons, List.map_nil, List.drop_zero, Option.isSome_none, Option.isNone_none, Option.isSome_some, Option.isNone_some, sp8_0, T.Inst.enc_eq, *]
set_option maxHeartbeats 4000000 in
theorem stops_Order_L0_ok {t12 : (Sl T.Stop)} {t13 : Int} {t14 : Int} {i : T.Inst} {left : MapII} {r : (MapII)} (h : stops_Order_L0 (t12, t13, t14, i, left) = some r) :
    O.loop 12 0 ⟨[(1, AV.ptr 0 0), (3, AV.map 1), (12, AV.pv (PV.sl t12.nil (szc 18 t12.l) (List.map T.Stop.enc t12.l))), (13, AV.pv (PV.int IntKind.i64 t13)), (14, AV.pv (PV.int IntKind.i64 t14))], [(0, Blk.box (List.map AV.pv (T.Inst.enc i))), (1, Blk.map (List.map entE left.es) left.clock)], 2⟩ = some (Ex.normal, ⟨[(1, AV.ptr 0 0), (3, AV.map 1)], [(0, Blk.box (List.map AV.pv (T.Inst.enc i))), (1, Blk.map (List.map entE r.es) r.clock)], 2⟩) := by
  refine stops_Order_L0.partial_correctness (fun p r => O.loop 12 0 ⟨[(1, AV.ptr 0 0), (3, AV.map 1), (12, AV.pv (PV.sl p.1.nil (szc 18 p.1.l) (List.map T.Stop.enc p.1.l))), (13, AV.pv (PV.int IntKind.i64 p.2.1)), (14, AV.pv (PV.int IntKind.i64 p.2.2.1))], [(0, Blk.box (List.map AV.pv (T.Inst.enc p.2.2.2.1))), (1, Blk.map (List.map entE p.2.2.2.2.es) p.2.2.2.2.clock)], 2⟩ = some (Ex.normal, ⟨[(1, AV.ptr 0 0), (3, AV.map 1)], [(0, Blk.box (List.map AV.pv (T.Inst.enc p.2.2.2.1))), (1, Blk.map (List.map entE r.es) r.clock)], 2⟩)) ?_ (t12, t13, t14, i, left) r h
  clear h r t12 t13 t14 i left
  intro stops_Order_L0 ih13
  rintro ⟨t12, t13, t14, i, left⟩ r h
  dsimp only at h ⊢
  by_cases h1 : (decide (t14 < t13)) = true
  rw [if_pos h1] at h
  obtain ⟨x3, h2, h⟩ := Option.bind_eq_some_iff.1 h
  have f1 := geti_nat h2 IntKind.i64
  have f2 := geti_map T.Stop.enc h2
  try simp only [T.Stop.enc_eq, encx.down, Nat.zero_add, Nat.reduceAdd] at f2
  have f3 := geti_szcT h2 18
  have f4 := fun b => mii_get b left x3.n
  try simp only [encx.down, Nat.zero_add, Nat.reduceAdd] at f4
  have f5 := mii_put 1 left x3.n (IntKind.i64.wrap ((mget left x3.n) + (1 : Int)))
  try simp only [encx.down, Nat.zero_add, Nat.reduceAdd] at f5
  have f6 := ih13 _ _ h
  try dsimp only at f6
  try simp only [T.Inst.enc_eq, T.Stop.enc_eq, encx.down, Nat.zero_add, Nat.reduceAdd] at f6
  clear h
  clear ih13
  rotate_left
  rw [if_neg h1] at h; replace h1 := Bool.eq_false_iff.2 h1
  cases h
  clear ih13
  rotate_left
  all_goals
    refine omega_L fn12 (by rfl) ?_
    simp (disch := first | assumption | rfl | exact Sure.mk (by kernel_rfl)) only [coreG.down, tab.down, ↓reduceIte, Nat.reduceLeDiff, Nat.reduceEqDiff, Nat.reduceLT, Nat.reduceAdd, Nat.reduceSub, Nat.reduceMul, reduceCtorEq, Nat.reducePow, needs, aop, aBin, intBin, aLoad, List.toList_toArray, avOf, pvOf, allPV, List.take, List.drop, List.length_cons, List.length_nil, List.length_map, aStore, AV.stor, AV.cells, List.append, aFieldAddr, List.getElem?_cons_zero, List.getElem?_cons_succ, subHeap, AV.refs, AV.ren, AV.rows, if_true, if_false, List.nil_append, List.append_nil, List.cons_append, tupled, unz, aBuiltin, lenTd, aLen, ptrRows, List.getElem?_nil, touched, List.isEmpty_nil, Option.some.injEq, aUn, pure?, PV.cells, List.replicate, List.set_cons_zero, List.set_cons_succ, aConvert, strBin, sliceOf, eq_self, AV.thaw, Blk.thaw, aSlice, aNil, isNilV, aEq, plainEq, fitAll, keyFits, aMax, maxFrom, aPart, Blk.ren, Blk.refs, List.flatMap_nil, List.flatMap_cons, List.map_cons, List.map_nil, List.drop_zero, Option.isSome_none, Option.isNone_none, Option.isSome_some, Option.isNone_some, sp12_0, sp12_2, T.Inst.enc_eq, T.Stop.enc_eq, *]
set_option maxHeartbeats 4000000 in
theorem maps_Keys_map_int_int_ok {m : MapII} {r : (Unit)} (h : maps_Keys_map_int_int m = some r) :
    O.call 33 [AV.map 0] [(0, Blk.map (List.map entE m.es) m.clock)] = some (AV.clo 46 [] [AV.ptr 1 0], [(0, Blk.map (List.map entE m.es) m.clock), (1, Blk.box [AV.map 0])]) := by
  unfold maps_Keys_map_int_int at h
  cases h
  rotate_left
  all_goals
    refine omega_F rfl fn33 (by rfl) (by rfl) rfl ?_
    simp (disch := first | assumption | rfl | exact Sure.mk (by kernel_rfl)) only [coreG.down, tab.down, ↓reduceIte, Nat.reduceLeDiff, Nat.reduceEqDiff, Nat.reduceLT, Nat.reduceAdd, Nat.reduceSub, Nat.reduceMul, reduceCtorEq, Nat.reducePow, needs, aop, aBin, intBin, aLoad, List.toList_toArray, avOf, pvOf, allPV, List.take, List.drop, List.length_cons, List.length_nil, List.length_map, aStore, AV.stor, AV.cells, List.append, aFieldAddr, List.getElem?_cons_zero, List.getElem?_cons_succ, subHeap, AV.refs, AV.ren, AV.rows, if_true, if_false, List.nil_append, List.append_nil, List.cons_append, tupled, unz, aBuiltin, lenTd, aLen, ptrRows, List.getElem?_nil, touched, List.isEmpty_nil, Option.some.injEq, aUn, pure?, PV.cells, List.replicate, List.set_cons_zero, List.set_cons_succ, aConvert, strBin, sliceOf, eq_self, AV.thaw, Blk.thaw, aSlice, aNil, isNilV, aEq, plainEq, fitAll, keyFits, aMax, maxFrom, aPart, Blk.ren, Blk.refs, List.flatMap_nil, List.flatMap_cons, List.map_cons, List.map_nil, List.drop_zero, Option.isSome_none, Option.isNone_none, Option.isSome_some, Option.isNone_some, *]
set_option maxHeartbeats 4000000 in
theorem stops_waits_L2_ok {u : Int} {t12 : (Sl T.Stop)} {t13 : Int} {t14 : Int} {left : MapII} {i : T.Inst} {out : MapII} {s : T.Stop} {r : (MapII)} (h : stops_waits_L2 (u, t12, t13, t14, left, i, out, s) = some r) :
    O.loop 34 2 ⟨[(1, AV.map 0), (2, AV.ptr 1 0), (5, AV.map 2), (7, AV.ptr 3 0), (8, AV.pv (PV.int IntKind.i64 u)), (12, AV.pv (PV.sl t12.nil (szc 18 t12.l) (List.map T.Stop.enc t12.l))), (13, AV.pv (PV.int IntKind.i64 t13)), (14, AV.pv (PV.int IntKind.i64 t14))], [(0, Blk.map (List.map entE left.es) left.clock), (1, Blk.box (List.map AV.pv (T.Inst.enc i))), (2, Blk.map (List.map entE out.es) out.clock), (3, Blk.box (List.map AV.pv (T.Stop.enc s)))], 4⟩ = some (Ex.normal, ⟨[(1, AV.map 0), (2, AV.ptr 1 0), (5, AV.map 2), (12, AV.pv (PV.sl t12.nil (szc 18 t12.l) (List.map T.Stop.enc t12.l))), (13, AV.pv (PV.int IntKind.i64 t13)), (14, AV.pv (PV.int IntKind.i64 t14))], [(0, Blk.map (List.map entE left.es) left.clock), (1, Blk.box (List.map AV.pv (T.Inst.enc i))), (2, Blk.map (List.map entE r.es) r.clock), (3, Blk.box (List.map AV.pv (T.Stop.enc s)))], 4⟩) := by
  refine stops_waits_L2.partial_correctness (fun p r => O.loop 34 2 ⟨[(1, AV.map 0), (2, AV.ptr 1 0), (5, AV.map 2), (7, AV.ptr 3 0), (8, AV.pv (PV.int IntKind.i64 p.1)), (12, AV.pv (PV.sl p.2.1.nil (szc 18 p.2.1.l) (List.map T.Stop.enc p.2.1.l))), (13, AV.pv (PV.int IntKind.i64 p.2.2.1)), (14, AV.pv (PV.int IntKind.i64 p.2.2.2.1))], [(0, Blk.map (List.map entE p.2.2.2.2.1.es) p.2.2.2.2.1.clock), (1, Blk.box (List.map AV.pv (T.Inst.enc p.2.2.2.2.2.1))), (2, Blk.map (List.map entE p.2.2.2.2.2.2.1.es) p.2.2.2.2.2.2.1.clock), (3, Blk.box (List.map AV.pv (T.Stop.enc p.2.2.2.2.2.2.2)))], 4⟩ = some (Ex.normal, ⟨[(1, AV.map 0), (2, AV.ptr 1 0), (5, AV.map 2), (12, AV.pv (PV.sl p.2.1.nil (szc 18 p.2.1.l) (List.map T.Stop.enc p.2.1.l))), (13, AV.pv (PV.int IntKind.i64 p.2.2.1)), (14, AV.pv (PV.int IntKind.i64 p.2.2.2.1))], [(0, Blk.map (List.map entE p.2.2.2.2.1.es) p.2.2.2.2.1.clock), (1, Blk.box (List.map AV.pv (T.Inst.enc p.2.2.2.2.2.1))), (2, Blk.map (List.map entE r.es) r.clock), (3, Blk.box (List.map AV.pv (T.Stop.enc p.2.2.2.2.2.2.2)))], 4⟩)) ?_ (u, t12, t13, t14, left, i, out, s) r h
  clear h r u t12 t13 t14 left i out s
  intro stops_waits_L2 ih19
  rintro ⟨u, t12, t13, t14, left, i, out, s⟩ r h
  dsimp only at h ⊢
  by_cases h1 : (decide (u ≥ (0 : Int))) = true
  rw [if_pos h1] at h
  obtain ⟨x3, h2, h⟩ := Option.bind_eq_some_iff.1 h
  have f1 := geti_nat h2 IntKind.i64
  have f2 := geti_map T.Stop.enc h2
  try simp only [T.Stop.enc_eq, encx.down, Nat.zero_add, Nat.reduceAdd] at f2
  have f3 := geti_szcT h2 18
  by_cases h4 : (x3.n != s.n) = true
  rw [if_pos h4] at h
  have f4 := fun b => mii_get b out x3.n
  try simp only [encx.down, Nat.zero_add, Nat.reduceAdd] at f4
  have f5 := mii_put 2 out x3.n (IntKind.i64.wrap ((mget out x3.n) + (1 : Int)))
  try simp only [encx.down, Nat.zero_add, Nat.reduceAdd] at f5
  obtain ⟨v6, h5, h⟩ := Option.bind_eq_some_iff.1 h
  have f6 := stops_up_ok h5
  try simp only [T.Inst.enc_eq, encx.down, Nat.zero_add, Nat.reduceAdd] at f6
  have f7 := ih19 _ _ h
  try dsimp only at f7
  try simp only [T.Inst.enc_eq, T.Stop.enc_eq, encx.down, Nat.zero_add, Nat.reduceAdd] at f7
  clear h
  clear ih19
  rotate_left
  rw [if_neg h4] at h; replace h4 := Bool.eq_false_iff.2 h4
  obtain ⟨v8, h7, h⟩ := Option.bind_eq_some_iff.1 h
  have f8 := stops_up_ok h7
  try simp only [T.Inst.enc_eq, encx.down, Nat.zero_add, Nat.reduceAdd] at f8
  have f9 := ih19 _ _ h
  try dsimp only at f9
  try simp only [T.Inst.enc_eq, T.Stop.enc_eq, encx.down, Nat.zero_add, Nat.reduceAdd] at f9
  clear h
  clear ih19
  rotate_left
  rw [if_neg h1] at h; replace h1 := Bool.eq_false_iff.2 h1
  cases h
  clear ih19
  rotate_left
  all_goals
    refine omega_L fn34 (by rfl) ?_
    simp (disch := first | assumption | rfl | exact Sure.mk (by kernel_rfl)) only [coreG.down, tab.down, ↓reduceIte, Nat.reduceLeDiff, Nat.reduceEqDiff, Nat.reduceLT, Nat.reduceAdd, Nat.reduceSub, Nat.reduceMul, reduceCtorEq, Nat.reducePow, needs, aop, aBin, intBin, aLoad, List.toList_toArray, avOf, pvOf, allPV, List.take, List.drop, List.length_cons, List.length_nil, List.length_map, aStore, AV.stor, AV.cells, List.append, aFieldAddr, List.getElem?_cons_zero, List.getElem?_cons_succ, subHeap, AV.refs, AV.ren, AV.rows, if_true, if_false, List.nil_append, List.append_nil, List.cons_append, tupled, unz, aBuiltin, lenTd, aLen, ptrRows, List.getElem?_nil, touched, List.isEmpty_nil, Option.some.injEq, aUn, pure?, PV.cells, List.replicate, List.set_cons_zero, List.set_cons_succ, aConvert, strBin, sliceOf, eq_self, AV.thaw, Blk.thaw, aSlice, aNil, isNilV, aEq, plainEq, fitAll, keyFits, aMax, maxFrom, aPart, Blk.ren, Blk.refs, List.flatMap_nil, List.flatMap_cons, List.map_cons, List.map_nil, List.drop_zero, Option.isSome_none, Option.isNone_none, Option.isSome_some, Option.isNone_some, sp34_0, sp34_2, T.Inst.enc_eq, T.Stop.enc_eq, *]
set_option maxHeartbeats 4000000 in
theorem stops_waits_L0_ok {t12 : (Sl T.Stop)} {t13 : Int} {t14 : Int} {left : MapII} {i : T.Inst} {out : MapII} {r : (MapII)} (h : stops_waits_L0 (t12, t13, t14, left, i, out) = some r) :
    O.loop 34 0 ⟨[(1, AV.map 0), (2, AV.ptr 1 0), (5, AV.map 2), (12, AV.pv (PV.sl t12.nil (szc 18 t12.l) (List.map T.Stop.enc t12.l))), (13, AV.pv (PV.int IntKind.i64 t13)), (14, AV.pv (PV.int IntKind.i64 t14))], [(0, Blk.map (List.map entE left.es) left.clock), (1, Blk.box (List.map AV.pv (T.Inst.enc i))), (2, Blk.map (List.map entE out.es) out.clock)], 3⟩ = some (Ex.normal, ⟨[(5, AV.map 2)], [(0, Blk.map (List.map entE left.es) left.clock), (1, Blk.box (List.map AV.pv (T.Inst.enc i))), (2, Blk.map (List.map entE r.es) r.clock)], 3⟩) := by
  refine stops_waits_L0.partial_correctness (fun p r => O.loop 34 0 ⟨[(1, AV.map 0), (2, AV.ptr 1 0), (5, AV.map 2), (12, AV.pv (PV.sl p.1.nil (szc 18 p.1.l) (List.map T.Stop.enc p.1.l))), (13, AV.pv (PV.int IntKind.i64 p.2.1)), (14, AV.pv (PV.int IntKind.i64 p.2.2.1))], [(0, Blk.map (List.map entE p.2.2.2.1.es) p.2.2.2.1.clock), (1, Blk.box (List.map AV.pv (T.Inst.enc p.2.2.2.2.1))), (2, Blk.map (List.map entE p.2.2.2.2.2.es) p.2.2.2.2.2.clock)], 3⟩ = some (Ex.normal, ⟨[(5, AV.map 2)], [(0, Blk.map (List.map entE p.2.2.2.1.es) p.2.2.2.1.clock), (1, Blk.box (List.map AV.pv (T.Inst.enc p.2.2.2.2.1))), (2, Blk.map (List.map entE r.es) r.clock)], 3⟩)) ?_ (t12, t13, t14, left, i, out) r h
  clear h r t12 t13 t14 left i out
  intro stops_waits_L0 ih18
  rintro ⟨t12, t13, t14, left, i, out⟩ r h
  dsimp only at h ⊢
  by_cases h1 : (decide (t14 < t13)) = true
  rw [if_pos h1] at h
  obtain ⟨x3, h2, h⟩ := Option.bind_eq_some_iff.1 h
  have f1 := geti_nat h2 IntKind.i64
  have f2 := geti_map T.Stop.enc h2
  try simp only [T.Stop.enc_eq, encx.down, Nat.zero_add, Nat.reduceAdd] at f2
  have f3 := geti_szcT h2 18
  have f4 := fun b => mii_get b left x3.n
  try simp only [encx.down, Nat.zero_add, Nat.reduceAdd] at f4
  by_cases h4 : ((mget left x3.n) == (0 : Int)) = true
  rw [if_pos h4] at h
  have f5 := ih18 _ _ h
  try dsimp only at f5
  try simp only [T.Inst.enc_eq, T.Stop.enc_eq, encx.down, Nat.zero_add, Nat.reduceAdd] at f5
  clear h
  clear ih18
  rotate_left
  rw [if_neg h4] at h; replace h4 := Bool.eq_false_iff.2 h4
  obtain ⟨v6, h5, h⟩ := Option.bind_eq_some_iff.1 h
  have f6 := stops_up_ok h5
  try simp only [T.Inst.enc_eq, encx.down, Nat.zero_add, Nat.reduceAdd] at f6
  obtain ⟨v8, h7, h⟩ := Option.bind_eq_some_iff.1 h
  have f7 := stops_waits_L2_ok h7
  try simp only [T.Inst.enc_eq, T.Stop.enc_eq, encx.down, Nat.zero_add, Nat.reduceAdd] at f7
  have f8 := ih18 _ _ h
  try dsimp only at f8
  try simp only [T.Inst.enc_eq, T.Stop.enc_eq, encx.down, Nat.zero_add, Nat.reduceAdd] at f8
  clear h
  clear ih18
  rotate_left
  rw [if_neg h1] at h; replace h1 := Bool.eq_false_iff.2 h1
  cases h
  clear ih18
  rotate_left
  all_goals
    refine omega_L fn34 (by rfl) ?_
    simp (disch := first | assumption | rfl | exact Sure.mk (by kernel_rfl)) only [coreG.down, tab.down, ↓reduceIte, Nat.reduceLeDiff, Nat.reduceEqDiff, Nat.reduceLT, Nat.reduceAdd, Nat.reduceSub, Nat.reduceMul, reduceCtorEq, Nat.reducePow, needs, aop, aBin, intBin, aLoad, List.toList_toArray, avOf, pvOf, allPV, List.take, List.drop, List.length_cons, List.length_nil, List.length_map, aStore, AV.stor, AV.cells, List.append, aFieldAddr, List.getElem?_cons_zero, List.getElem?_cons_succ, subHeap, AV.refs, AV.ren, AV.rows, if_true, if_false, List.nil_append, List.append_nil, List.cons_append, tupled, unz, aBuiltin, lenTd, aLen, ptrRows, List.getElem?_nil, touched, List.isEmpty_nil, Option.some.injEq, aUn, pure?, PV.cells, List.replicate, List.set_cons_zero, List.set_cons_succ, aConvert, strBin, sliceOf, eq_self, AV.thaw, Blk.thaw, aSlice, aNil, isNilV, aEq, plainEq, fitAll, keyFits, aMax, maxFrom, aPart, Blk.ren, Blk.refs, List.flatMap_nil, List.flatMap_cons, List.map_cons, List.map_nil, List.drop_zero, Option.isSome_none, Option.isNone_none, Option.isSome_some, Option.isNone_some, sp34_0, sp34_2, T.Inst.enc_eq, T.Stop.enc_eq, *]
set_option maxHeartbeats 4000000 in
theorem stops_waits_ok {i : T.Inst} {m : MapII} {r : (MapII)} (h : stops_waits i m = some r) :
    O.call 34 [AV.pv (PV.agg (T.Inst.enc i)), AV.map 0] [(0, Blk.map (List.map entE m.es) m.clock)] = some (AV.map 1, [(0, Blk.map (List.map entE m.es) m.clock), (1, Blk.map (List.map entE r.es) r.clock)]) := by
  unfold stops_waits at h
  obtain ⟨v2, h1, h⟩ := Option.bind_eq_some_iff.1 h
  have f1 := stops_waits_L0_ok h1
  try simp only [T.Inst.enc_eq, T.Stop.enc_eq, encx.down, Nat.zero_add, Nat.reduceAdd] at f1
  cases h
  rotate_left
  all_goals
    refine omega_F rfl fn34 (by rfl) (by rfl) rfl ?_
    simp (disch := first | assumption | rfl | exact Sure.mk (by kernel_rfl)) only [coreG.down, tab.down, ↓reduceIte, Nat.reduceLeDiff, Nat.reduceEqDiff, Nat.reduceLT, Nat.reduceAdd, Nat.reduceSub, Nat.reduceMul, reduceCtorEq, Nat.reducePow, needs, aop, aBin, intBin, aLoad, List.toList_toArray, avOf, pvOf, allPV, List.take, List.drop, List.length_cons, List.length_nil, List.length_map, aStore, AV.stor, AV.cells, List.append, aFieldAddr, List.getElem?_cons_zero, List.getElem?_cons_succ, subHeap, AV.refs, AV.ren, AV.rows, if_true, if_false, List.nil_append, List.append_nil, List.cons_append, tupled, unz, aBuiltin, lenTd, aLen, ptrRows, List.getElem?_nil, touched, List.isEmpty_nil, Option.some.injEq, aUn, pure?, PV.cells, List.replicate, List.set_cons_zero, List.set_cons_succ, aConvert, strBin, sliceOf, eq_self, AV.thaw, Blk.thaw, aSlice, aNil, isNilV, aEq, plainEq, fitAll, keyFits, aMax, maxFrom, aPart, Blk.ren, Blk.refs, List.flatMap_nil, List.flatMap_cons, List.map_cons, List.map_nil, List.drop_zero, Option.isSome_none, Option.isNone_none, Option.isSome_some, Option.isNone_some, sp34_0, sp34_2, T.Inst.enc_eq, *]
set_option maxHeartbeats 4000000 in
theorem stops_Order_1_ok {n : Int} {m : MapII} {r : (Bool)} (h : stops_Order_1 n m = some r) :
    O.call 36 [AV.pv (PV.int IntKind.i64 n), AV.ptr 0 0] [(0, Blk.box [AV.map 1]), (1, Blk.map (List.map entE m.es) m.clock)] = some (AV.pv (PV.bool r), [(0, Blk.box [AV.map 1]), (1, Blk.map (List.map entE m.es) m.clock)]) := by
  unfold stops_Order_1 at h
  have f1 := fun b => mii_get b m n
  try simp only [encx.down, Nat.zero_add, Nat.reduceAdd] at f1
  cases h
  rotate_left
  all_goals
    refine omega_F rfl fn36 (by rfl) (by rfl) rfl ?_
    simp (disch := first | assumption | rfl | exact Sure.mk (by kernel_rfl)) only [coreG.down, tab.down, ↓reduceIte, Nat.reduceLeDiff, Nat.reduceEqDiff, Nat.reduceLT, Nat.reduceAdd, Nat.reduceSub, Nat.reduceMul, reduceCtorEq, Nat.reducePow, needs, aop, aBin, intBin, aLoad, List.toList_toArray, avOf, pvOf, allPV, List.take, List.drop, List.length_cons, List.length_nil, List.length_map, aStore, AV.stor, AV.cells, List.append, aFieldAddr, List.getElem?_cons_zero, List.getElem?_cons_succ, subHeap, AV.refs, AV.ren, AV.rows, if_true, if_false, List.nil_append, List.append_nil, List.cons_append, tupled, unz, aBuiltin, lenTd, aLen, ptrRows, List.getElem?_nil, touched, List.isEmpty_nil, Option.some.injEq, aUn, pure?, PV.cells, List.replicate, List.set_cons_zero, List.set_cons_succ, aConvert, strBin, sliceOf, eq_self, AV.thaw, Blk.thaw, aSlice, aNil, isNilV, aEq, plainEq, fitAll, keyFits, aMax, maxFrom, aPart, Blk.ren, Blk.refs, List.flatMap_nil, List.flatMap_cons, List.map_cons, List.map_nil, List.drop_zero, Option.isSome_none, Option.isNone_none, Option.isSome_some, Option.isNone_some, *]
def slices_IndexFunc_Lint_stops_Order_1_L0_enc (m1 : MapII) : ((Int) ⊕ (Unit)) → Ex × St
  | .inl y => (Ex.ret, ⟨[(4, AV.pv (PV.int IntKind.i64 y))], [(0, Blk.box [AV.map 1]), (1, Blk.map (List.map entE m1.es) m1.clock)], 2⟩)
  | .inr y => (Ex.normal, ⟨[(4, AV.undef)], [(0, Blk.box [AV.map 1]), (1, Blk.map (List.map entE m1.es) m1.clock)], 2⟩)
set_option maxHeartbeats 4000000 in
theorem slices_IndexFunc_Lint_stops_Order_1_L0_ok {s : (Sl Int)} {t7 : Int} {t8 : Int} {m1 : MapII} {r : ((Int) ⊕ (Unit))} (h : slices_IndexFunc_Lint_stops_Order_1_L0 (s, t7, t8, m1) = some r) :
    O.loop 35 0 ⟨[(0, AV.pv (PV.sl s.nil (szc 1 s.l) (List.map intE s.l))), (1, AV.clo 36 [] [AV.ptr 0 0]), (7, AV.pv (PV.int IntKind.i64 t7)), (8, AV.pv (PV.int IntKind.i64 t8))], [(0, Blk.box [AV.map 1]), (1, Blk.map (List.map entE m1.es) m1.clock)], 2⟩ = some (slices_IndexFunc_Lint_stops_Order_1_L0_enc m1 r) := by
  refine slices_IndexFunc_Lint_stops_Order_1_L0.partial_correctness (fun p r => O.loop 35 0 ⟨[(0, AV.pv (PV.sl p.1.nil (szc 1 p.1.l) (List.map intE p.1.l))), (1, AV.clo 36 [] [AV.ptr 0 0]), (7, AV.pv (PV.int IntKind.i64 p.2.1)), (8, AV.pv (PV.int IntKind.i64 p.2.2.1))], [(0, Blk.box [AV.map 1]), (1, Blk.map (List.map entE p.2.2.2.es) p.2.2.2.clock)], 2⟩ = some (slices_IndexFunc_Lint_stops_Order_1_L0_enc p.2.2.2 r)) ?_ (s, t7, t8, m1) r h
  clear h r s t7 t8 m1
  intro slices_IndexFunc_Lint_stops_Order_1_L0 ih21
  rintro ⟨s, t7, t8, m1⟩ r h
  dsimp only at h ⊢
  by_cases h1 : (decide (t8 < t7)) = true
  rw [if_pos h1] at h
  obtain ⟨x3, h2, h⟩ := Option.bind_eq_some_iff.1 h
  have f1 := geti_nat h2 IntKind.i64
  have f2 := geti_map intE h2
  try simp only [intE, encx.down, Nat.zero_add, Nat.reduceAdd] at f2
  have f3 := geti_szcT h2 1
  obtain ⟨v5, h4, h⟩ := Option.bind_eq_some_iff.1 h
  have f4 := stops_Order_1_ok h4
  try simp only [encx.down, Nat.zero_add, Nat.reduceAdd] at f4
  by_cases h6 : v5 = true
  rw [if_pos h6] at h
  try simp only [h6] at f4
  cases h
  show _ = some (slices_IndexFunc_Lint_stops_Order_1_L0_enc _ (.inl _))
  dsimp only [slices_IndexFunc_Lint_stops_Order_1_L0_enc]
  clear ih21
  rotate_left
  rw [if_neg h6] at h; replace h6 := Bool.eq_false_iff.2 h6
  try simp only [h6] at f4
  have f5 := ih21 _ _ h
  try dsimp only at f5
  try simp only [intE, encx.down, Nat.zero_add, Nat.reduceAdd] at f5
  clear h
  try simp only [h6] at f5
  clear ih21
  rotate_left
  rw [if_neg h1] at h; replace h1 := Bool.eq_false_iff.2 h1
  cases h
  show _ = some (slices_IndexFunc_Lint_stops_Order_1_L0_enc _ (.inr _))
  dsimp only [slices_IndexFunc_Lint_stops_Order_1_L0_enc]
  clear ih21
  rotate_left
  all_goals
    refine omega_L fn35 (by rfl) ?_
    simp (disch := first | assumption | rfl | exact Sure.mk (by kernel_rfl)) only [coreG.down, tab.down, ↓reduceIte, Nat.reduceLeDiff, Nat.reduceEqDiff, Nat.reduceLT, Nat.reduceAdd, Nat.reduceSub, Nat.reduceMul, reduceCtorEq, Nat.reducePow, needs, aop, aBin, intBin, aLoad, List.toList_toArray, avOf, pvOf, allPV, List.take, List.drop, List.length_cons, List.length_nil, List.length_map, aStore, AV.stor, AV.cells, List.append, aFieldAddr, List.getElem?_cons_zero, List.getElem?_cons_succ, subHeap, AV.refs, AV.ren, AV.rows, if_true, if_false, List.nil_append, List.append_nil, List.cons_append, tupled, unz, aBuiltin, lenTd, aLen, ptrRows, List.getElem?_nil, touched, List.isEmpty_nil, Option.some.injEq, aUn, pure?, PV.cells, List.replicate, List.set_cons_zero, List.set_cons_succ, aConvert, strBin, sliceOf, eq_self, AV.thaw, Blk.thaw, aSlice, aNil, isNilV, aEq, plainEq, fitAll, keyFits, aMax, maxFrom, aPart, Blk.ren, Blk.refs, List.flatMap_nil, List.flatMap_cons, List.map_cons, List.map_nil, List.drop_zero, Option.isSome_none, Option.isNone_none, Option.isSome_some, Option.isNone_some, sp35_0, intE, *]
set_option maxHeartbeats 4000000 in
theorem slices_IndexFunc_Lint_stops_Order_1_ok {s : (Sl Int)} {m : MapII} {r : (Int)} (h : slices_IndexFunc_Lint_stops_Order_1 s m = some r) :
    O.call 35 [AV.pv (PV.sl s.nil (szc 1 s.l) (List.map intE s.l)), AV.clo 36 [] [AV.ptr 0 0]] [(0, Blk.box [AV.map 1]), (1, Blk.map (List.map entE m.es) m.clock)] = some (AV.pv (PV.int IntKind.i64 r), [(0, Blk.box [AV.map 1]), (1, Blk.map (List.map entE m.es) m.clock)]) := by
  unfold slices_IndexFunc_Lint_stops_Order_1 at h
  obtain ⟨v2, h1, h⟩ := Option.bind_eq_some_iff.1 h
  have f1 := slices_IndexFunc_Lint_stops_Order_1_L0_ok h1
  try simp only [intE, encx.down, Nat.zero_add, Nat.reduceAdd] at f1
  rcases v2 with y3 | y4
  dsimp only at h
  simp only [slices_IndexFunc_Lint_stops_Order_1_L0_enc, intE, encx.down, Nat.zero_add, Nat.reduceAdd] at f1
  cases h
  rotate_left
  dsimp only at h
  simp only [slices_IndexFunc_Lint_stops_Order_1_L0_enc, intE, encx.down, Nat.zero_add, Nat.reduceAdd] at f1
  cases h
  rotate_left
  all_goals
    refine omega_F rfl fn35 (by rfl) (by rfl) rfl ?_
    simp (disch := first | assumption | rfl | exact Sure.mk (by kernel_rfl)) only [coreG.down, tab.down, ↓reduceIte, Nat.reduceLeDiff, Nat.reduceEqDiff, Nat.reduceLT, Nat.reduceAdd, Nat.reduceSub, Nat.reduceMul, reduceCtorEq, Nat.reducePow, needs, aop, aBin, intBin, aLoad, List.toList_toArray, avOf, pvOf, allPV, List.take, List.drop, List.length_cons, List.length_nil, List.length_map, aStore, AV.stor, AV.cells, List.append, aFieldAddr, List.getElem?_cons_zero, List.getElem?_cons_succ, subHeap, AV.refs, AV.ren, AV.rows, if_true, if_false, List.nil_append, List.append_nil, List.cons_append, tupled, unz, aBuiltin, lenTd, aLen, ptrRows, List.getElem?_nil, touched, List.isEmpty_nil, Option.some.injEq, aUn, pure?, PV.cells, List.replicate, List.set_cons_zero, List.set_cons_succ, aConvert, strBin, sliceOf, eq_self, AV.thaw, Blk.thaw, aSlice, aNil, isNilV, aEq, plainEq, fitAll, keyFits, aMax, maxFrom, aPart, Blk.ren, Blk.refs, List.flatMap_nil, List.flatMap_cons, List.map_cons, List.map_nil, List.drop_zero, Option.isSome_none, Option.isNone_none, Option.isSome_some, Option.isNone_some, sp35_0, intE, *]
set_option maxHeartbeats 4000000 in
theorem stops_Order_L2_ok {i : T.Inst} {left : MapII} {out : (List Int)} {r : (MapII × (List Int))} (h : stops_Order_L2 (i, left, out) = some r) :
    O.loop 12 2 ⟨[(1, AV.ptr 0 0), (3, AV.map 1), (6, AV.row 2 out.length 0 out.length)], [(0, Blk.box (List.map AV.pv (T.Inst.enc i))), (1, Blk.map (List.map entE left.es) left.clock), (2, Blk.row out.isEmpty (szc 1 out) (List.map intE out))], 3⟩ = some (Ex.normal, ⟨[(6, AV.row 2 r.2.length 0 r.2.length)], [(0, Blk.box (List.map AV.pv (T.Inst.enc i))), (1, Blk.map (List.map entE r.1.es) r.1.clock), (2, Blk.row r.2.isEmpty (szc 1 r.2) (List.map intE r.2))], 3⟩) := by
  refine stops_Order_L2.partial_correctness (fun p r => O.loop 12 2 ⟨[(1, AV.ptr 0 0), (3, AV.map 1), (6, AV.row 2 p.2.2.length 0 p.2.2.length)], [(0, Blk.box (List.map AV.pv (T.Inst.enc p.1))), (1, Blk.map (List.map entE p.2.1.es) p.2.1.clock), (2, Blk.row p.2.2.isEmpty (szc 1 p.2.2) (List.map intE p.2.2))], 3⟩ = some (Ex.normal, ⟨[(6, AV.row 2 r.2.length 0 r.2.length)], [(0, Blk.box (List.map AV.pv (T.Inst.enc p.1))), (1, Blk.map (List.map entE r.1.es) r.1.clock), (2, Blk.row r.2.isEmpty (szc 1 r.2) (List.map intE r.2))], 3⟩)) ?_ (i, left, out) r h
  clear h r i left out
  intro stops_Order_L2 ih14
  rintro ⟨i, left, out⟩ r h
  dsimp only at h ⊢
  by_cases h1 : (decide ((left.es.length : Int) > (0 : Int))) = true
  rw [if_pos h1] at h
  obtain ⟨v3, h2, h⟩ := Option.bind_eq_some_iff.1 h
  have f1 := maps_Keys_map_int_int_ok h2
  try simp only [encx.down, Nat.zero_add, Nat.reduceAdd] at f1
  obtain ⟨v5, h4, h⟩ := Option.bind_eq_some_iff.1 h
  have f2 := sortedKeys_ok h4
  try simp only [intE, encx.down, Nat.zero_add, Nat.reduceAdd] at f2
  obtain ⟨v7, h6, h⟩ := Option.bind_eq_some_iff.1 h
  have f3 := stops_waits_ok h6
  try simp only [T.Inst.enc_eq, encx.down, Nat.zero_add, Nat.reduceAdd] at f3
  obtain ⟨v9, h8, h⟩ := Option.bind_eq_some_iff.1 h
  have f4 := slices_IndexFunc_Lint_stops_Order_1_ok h8
  try simp only [intE, encx.down, Nat.zero_add, Nat.reduceAdd] at f4
  obtain ⟨x11, h10, h⟩ := Option.bind_eq_some_iff.1 h
  have f5 := geti_nat h10 IntKind.i64
  have f6 := geti_map intE h10
  try simp only [intE, encx.down, Nat.zero_add, Nat.reduceAdd] at f6
  have f7 := geti_szcT h10 1
  by_cases h12 : ¬ (roomOK (out.length + 1) 8 = true)
  rw [if_neg h12] at h; cases h
  replace h12 := Decidable.of_not_not h12; rw [if_pos h12] at h
  have f8 := h12
  have f9 := fun te β nx c0 (h1 : 1 = te.size) (h2 : roomOK (out.length + 1) te.bytes = true) => rowApp_G te β 1 nx intE out c0 [] h1 h2
  have f10 := mii_del 1 left x11
  try simp only [encx.down, Nat.zero_add, Nat.reduceAdd] at f10
  have f11 : List.map intE out ++ [[PV.int IntKind.i64 x11]] = List.map intE (out ++ [x11]) := by simp only [List.map_append, List.map_cons, List.map_nil, u8_nat, u8_wrap, szc_nil, intE]
  have f12 := ih14 _ _ h
  try dsimp only at f12
  try simp only [T.Inst.enc_eq, intE, encx.down, Nat.zero_add, Nat.reduceAdd] at f12
  clear h
  clear ih14
  rotate_left
  rw [if_neg h1] at h; replace h1 := Bool.eq_false_iff.2 h1
  cases h
  clear ih14
  rotate_left
  all_goals
    refine omega_L fn12 (by rfl) ?_
    simp (disch := first | assumption | rfl | exact Sure.mk (by kernel_rfl)) only [coreG.down, tab.down, ↓reduceIte, Nat.reduceLeDiff, Nat.reduceEqDiff, Nat.reduceLT, Nat.reduceAdd, Nat.reduceSub, Nat.reduceMul, reduceCtorEq, Nat.reducePow, needs, aop, aBin, intBin, aLoad, List.toList_toArray, avOf, pvOf, allPV, List.take, List.drop, List.length_cons, List.length_nil, List.length_map, aStore, AV.stor, AV.cells, List.append, aFieldAddr, List.getElem?_cons_zero, List.getElem?_cons_succ, subHeap, AV.refs, AV.ren, AV.rows, if_true, if_false, List.nil_append, List.append_nil, List.cons_append, tupled, unz, aBuiltin, lenTd, aLen, ptrRows, List.getElem?_nil, touched, List.isEmpty_nil, Option.some.injEq, aUn, pure?, PV.cells, List.replicate, List.set_cons_zero, List.set_cons_succ, aConvert, strBin, sliceOf, eq_self, AV.thaw, Blk.thaw, aSlice, aNil, isNilV, aEq, plainEq, fitAll, keyFits, aMax, maxFrom, aPart, Blk.ren, Blk.refs, List.flatMap_nil, List.flatMap_cons, List.map_cons, List.map_nil, List.drop_zero, Option.isSome_none, Option.isNone_none, Option.isSome_some, Option.isNone_some, sp12_0, sp12_2, T.Inst.enc_eq, intE, *]
set_option maxHeartbeats 4000000 in
theorem stops_Order_ok {i : T.Inst} {r : ((Sl Int))} (h : stops_Order i = some r) :
    O.call 12 [AV.pv (PV.agg (T.Inst.enc i))] [] = some (AV.pv (PV.sl r.nil (szc 1 r.l) (List.map intE r.l)), []) := by
  unfold stops_Order at h
  obtain ⟨v2, h1, h⟩ := Option.bind_eq_some_iff.1 h
  have f1 := stops_Order_L0_ok h1
  try simp only [T.Inst.enc_eq, T.Stop.enc_eq, encx.down, Nat.zero_add, Nat.reduceAdd] at f1
  obtain ⟨v4, h3, h⟩ := Option.bind_eq_some_iff.1 h
  have f2 := stops_Order_L2_ok h3
  try simp only [T.Inst.enc_eq, intE, encx.down, Nat.zero_add, Nat.reduceAdd] at f2
  cases h
  rotate_left
  all_goals
    refine omega_F rfl fn12 (by rfl) (by rfl) rfl ?_
    simp (disch := first | assumption | rfl | exact Sure.mk (by kernel_rfl)) only [coreG.down, tab.down, ↓reduceIte, Nat.reduceLeDiff, Nat.reduceEqDiff, Nat.reduceLT, Nat.reduceAdd, Nat.reduceSub, Nat.reduceMul, reduceCtorEq, Nat.reducePow, needs, aop, aBin, intBin, aLoad, List.toList_toArray, avOf, pvOf, allPV, List.take, List.drop, List.length_cons, List.length_nil, List.length_map, aStore, AV.stor, AV.cells, List.append, aFieldAddr, List.getElem?_cons_zero, List.getElem?_cons_succ, subHeap, AV.refs, AV.ren, AV.rows, if_true, if_false, List.nil_append, List.append_nil, List.cons_append, tupled, unz, aBuiltin, lenTd, aLen, ptrRows, List.getElem?_nil, touched, List.isEmpty_nil, Option.some.injEq, aUn, pure?, PV.cells, List.replicate, List.set_cons_zero, List.set_cons_succ, aConvert, strBin, sliceOf, eq_self, AV.thaw, Blk.thaw, aSlice, aNil, isNilV, aEq, plainEq, fitAll, keyFits, aMax, maxFrom, aPart, Blk.ren, Blk.refs, List.flatMap_nil, List.flatMap_cons, List.map_cons, List.map_nil, List.drop_zero, Option.isSome_none, Option.isNone_none, Option.isSome_some, Option.isNone_some, sp12_0, sp12_2, T.Inst.enc_eq, intE, *]
set_option maxHeartbeats 4000000 in
theorem ref20_Put_L0_ok {ns : (Sl Int)} {n : Int} {k : Int} {r : (Int)} (h : ref20_Put_L0 (ns, n, k) = some r) :
    O.loop 37 0 ⟨[(0, AV.pv (PV.sl ns.nil (szc 1 ns.l) (List.map intE ns.l))), (1, AV.pv (PV.int IntKind.i64 n)), (5, AV.pv (PV.int IntKind.i64 k))], [], 0⟩ = some (Ex.normal, ⟨[(0, AV.pv (PV.sl ns.nil (szc 1 ns.l) (List.map intE ns.l))), (1, AV.pv (PV.int IntKind.i64 n)), (5, AV.pv (PV.int IntKind.i64 r))], [], 0⟩) := by
  refine ref20_Put_L0.partial_correctness (fun p r => O.loop 37 0 ⟨[(0, AV.pv (PV.sl p.1.nil (szc 1 p.1.l) (List.map intE p.1.l))), (1, AV.pv (PV.int IntKind.i64 p.2.1)), (5, AV.pv (PV.int IntKind.i64 p.2.2))], [], 0⟩ = some (Ex.normal, ⟨[(0, AV.pv (PV.sl p.1.nil (szc 1 p.1.l) (List.map intE p.1.l))), (1, AV.pv (PV.int IntKind.i64 p.2.1)), (5, AV.pv (PV.int IntKind.i64 r))], [], 0⟩)) ?_ (ns, n, k) r h
  clear h r ns n k
  intro ref20_Put_L0 ih26
  rintro ⟨ns, n, k⟩ r h
  dsimp only at h ⊢
  by_cases h1 : (decide (k < (ns.l.length : Int))) = true
  rw [if_pos h1] at h
  obtain ⟨x3, h2, h⟩ := Option.bind_eq_some_iff.1 h
  have f1 := geti_nat h2 IntKind.i64
  have f2 := geti_map intE h2
  try simp only [intE, encx.down, Nat.zero_add, Nat.reduceAdd] at f2
  have f3 := geti_szcT h2 1
  by_cases h4 : (decide (x3 < n)) = true
  rw [if_pos h4] at h
  have f4 := ih26 _ _ h
  try dsimp only at f4
  try simp only [intE, encx.down, Nat.zero_add, Nat.reduceAdd] at f4
  clear h
  clear ih26
  rotate_left
  rw [if_neg h4] at h; replace h4 := Bool.eq_false_iff.2 h4
  cases h
  clear ih26
  rotate_left
  rw [if_neg h1] at h; replace h1 := Bool.eq_false_iff.2 h1
  cases h
  clear ih26
  rotate_left
  all_goals
    refine omega_L fn37 (by rfl) ?_
    simp (disch := first | assumption | rfl | exact Sure.mk (by kernel_rfl)) only [coreG.down, tab.down, ↓reduceIte, Nat.reduceLeDiff, Nat.reduceEqDiff, Nat.reduceLT, Nat.reduceAdd, Nat.reduceSub, Nat.reduceMul, reduceCtorEq, Nat.reducePow, needs, aop, aBin, intBin, aLoad, List.toList_toArray, avOf, pvOf, allPV, List.take, List.drop, List.length_cons, List.length_nil, List.length_map, aStore, AV.stor, AV.cells, List.append, aFieldAddr, List.getElem?_cons_zero, List.getElem?_cons_succ, subHeap, AV.refs, AV.ren, AV.rows, if_true, if_false, List.nil_append, List.append_nil, List.cons_append, tupled, unz, aBuiltin, lenTd, aLen, ptrRows, List.getElem?_nil, touched, List.isEmpty_nil, Option.some.injEq, aUn, pure?, PV.cells, List.replicate, List.set_cons_zero, List.set_cons_succ, aConvert, strBin, sliceOf, eq_self, AV.thaw, Blk.thaw, aSlice, aNil, isNilV, aEq, plainEq, fitAll, keyFits, aMax, maxFrom, aPart, Blk.ren, Blk.refs, List.flatMap_nil, List.flatMap_cons, List.map_cons, List.map_nil, List.drop_zero, Option.isSome_none, Option.isNone_none, Option.isSome_some, Option.isNone_some, sp37_0, intE, *]
set_option maxHeartbeats 4000000 in
theorem ref20_Put_ok {ns : (Sl Int)} {n : Int} {r : ((Sl Int))} (h : ref20_Put ns n = some r) :
    O.call 37 [AV.pv (PV.sl ns.nil (szc 1 ns.l) (List.map intE ns.l)), AV.pv (PV.int IntKind.i64 n)] [] = some (AV.pv (PV.sl r.nil (szc 1 r.l) (List.map intE r.l)), []) := by
  unfold ref20_Put at h
  obtain ⟨v2, h1, h⟩ := Option.bind_eq_some_iff.1 h
  have f1 := ref20_Put_L0_ok h1
  try simp only [intE, encx.down, Nat.zero_add, Nat.reduceAdd] at f1
  by_cases h3 : (decide (v2 < (ns.l.length : Int))) = true
  rw [if_pos h3] at h
  obtain ⟨x5, h4, h⟩ := Option.bind_eq_some_iff.1 h
  have f2 := geti_nat h4 IntKind.i64
  have f3 := geti_map intE h4
  try simp only [intE, encx.down, Nat.zero_add, Nat.reduceAdd] at f3
  have f4 := geti_szcT h4 1
  by_cases h6 : (x5 == n) = true
  rw [if_pos h6] at h
  cases h
  rotate_left
  rw [if_neg h6] at h; replace h6 := Bool.eq_false_iff.2 h6
  have f5 : (szc 1 ns.l = 1 ∨ List.map intE ns.l = []) = True := szc_or _ _ _
  obtain ⟨r8, h7, h⟩ := Option.bind_eq_some_iff.1 h
  have f6 := subT_hi h7 IntKind.i64
  have f7 := subT_len h7
  have f8 := map_subT intE h7
  have f9 := szc_subT h7 1
  have f10 : (szc 1 r8 = 1 ∨ List.map intE r8 = []) = True := szc_or _ _ _
  by_cases h9 : ¬ (roomOK (r8.length) 8 = true)
  rw [if_neg h9] at h; cases h
  replace h9 := Decidable.of_not_not h9; rw [if_pos h9] at h
  have f11 := h9
  by_cases h10 : ¬ (roomOK (r8.length + 1) 8 = true)
  rw [if_neg h10] at h; cases h
  replace h10 := Decidable.of_not_not h10; rw [if_pos h10] at h
  have f12 := h10
  obtain ⟨r12, h11, h⟩ := Option.bind_eq_some_iff.1 h
  have f14 := subF_lo h11 IntKind.i64
  have f15 := subF_le h11
  have f16 := map_subF intE h11
  have f17 := szc_subF h11 1
  have f18 : (szc 1 r12 = 1 ∨ List.map intE r12 = []) = True := szc_or _ _ _
  have f19 : List.map intE r8 ++ [[PV.int IntKind.i64 n]] = List.map intE (r8 ++ [n]) := by simp only [List.map_append, List.map_cons, List.map_nil, u8_nat, u8_wrap, szc_nil, intE]
  by_cases h13 : ¬ (roomOK ((r8 ++ [n]).length + r12.length) 8 = true)
  rw [if_neg h13] at h; cases h
  replace h13 := Decidable.of_not_not h13; rw [if_pos h13] at h
  have f20 := h13
  have f21 : List.map intE (r8 ++ [n]) ++ List.map intE r12 = List.map intE ((r8 ++ [n]) ++ r12) := map_app _ _ _
  try simp only [f7] at f1
  cases h
  rotate_left
  rw [if_neg h3] at h; replace h3 := Bool.eq_false_iff.2 h3
  have f22 : (szc 1 ns.l = 1 ∨ List.map intE ns.l = []) = True := szc_or _ _ _
  obtain ⟨r15, h14, h⟩ := Option.bind_eq_some_iff.1 h
  have f23 := subT_hi h14 IntKind.i64
  have f24 := subT_len h14
  have f25 := map_subT intE h14
  have f26 := szc_subT h14 1
  have f27 : (szc 1 r15 = 1 ∨ List.map intE r15 = []) = True := szc_or _ _ _
  by_cases h16 : ¬ (roomOK (r15.length) 8 = true)
  rw [if_neg h16] at h; cases h
  replace h16 := Decidable.of_not_not h16; rw [if_pos h16] at h
  have f28 := h16
  by_cases h17 : ¬ (roomOK (r15.length + 1) 8 = true)
  rw [if_neg h17] at h; cases h
  replace h17 := Decidable.of_not_not h17; rw [if_pos h17] at h
  have f29 := h17
  obtain ⟨r19, h18, h⟩ := Option.bind_eq_some_iff.1 h
  have f31 := subF_lo h18 IntKind.i64
  have f32 := subF_le h18
  have f33 := map_subF intE h18
  have f34 := szc_subF h18 1
  have f35 : (szc 1 r19 = 1 ∨ List.map intE r19 = []) = True := szc_or _ _ _
  have f36 : List.map intE r15 ++ [[PV.int IntKind.i64 n]] = List.map intE (r15 ++ [n]) := by simp only [List.map_append, List.map_cons, List.map_nil, u8_nat, u8_wrap, szc_nil, intE]
  by_cases h20 : ¬ (roomOK ((r15 ++ [n]).length + r19.length) 8 = true)
  rw [if_neg h20] at h; cases h
  replace h20 := Decidable.of_not_not h20; rw [if_pos h20] at h
  have f37 := h20
  have f38 : List.map intE (r15 ++ [n]) ++ List.map intE r19 = List.map intE ((r15 ++ [n]) ++ r19) := map_app _ _ _
  try simp only [f24] at f1
  cases h
  rotate_left
  all_goals
    refine omega_F rfl fn37 (by rfl) (by rfl) rfl ?_
    simp (disch := first | assumption | rfl | exact Sure.mk (by kernel_rfl)) only [coreG.down, tab.down, ↓reduceIte, Nat.reduceLeDiff, Nat.reduceEqDiff, Nat.reduceLT, Nat.reduceAdd, Nat.reduceSub, Nat.reduceMul, reduceCtorEq, Nat.reducePow, needs, aop, aBin, intBin, aLoad, List.toList_toArray, avOf, pvOf, allPV, List.take, List.drop, List.length_cons, List.length_nil, List.length_map, aStore, AV.stor, AV.cells, List.append, aFieldAddr, List.getElem?_cons_zero, List.getElem?_cons_succ, subHeap, AV.refs, AV.ren, AV.rows, if_true, if_false, List.nil_append, List.append_nil, List.cons_append, tupled, unz, aBuiltin, lenTd, aLen, ptrRows, List.getElem?_nil, touched, List.isEmpty_nil, Option.some.injEq, aUn, pure?, PV.cells, List.replicate, List.set_cons_zero, List.set_cons_succ, aConvert, strBin, sliceOf, eq_self, AV.thaw, Blk.thaw, aSlice, aNil, isNilV, aEq, plainEq, fitAll, keyFits, aMax, maxFrom, aPart, Blk.ren, Blk.refs, List.flatMap_nil, List.flatMap_cons, List.map_cons, List.map_nil, List.drop_zero, Option.isSome_none, Option.isNone_none, Option.isSome_some, Option.isNone_some, sp37_0, intE, *]
set_option maxHeartbeats 4000000 in
theorem ref26_Order_L0_ok {all_ : (Sl Int)} {k : Int} {i : T.Inst} {r : ((Sl Int))} (h : ref26_Order_L0 (all_, k, i) = some r) :
    O.loop 13 0 ⟨[(1, AV.ptr 0 0), (3, AV.pv (PV.sl all_.nil (szc 1 all_.l) (List.map intE all_.l))), (4, AV.pv (PV.int IntKind.i64 k))], [(0, Blk.box (List.map AV.pv (T.Inst.enc i)))], 1⟩ = some (Ex.normal, ⟨[(1, AV.ptr 0 0), (3, AV.pv (PV.sl r.nil (szc 1 r.l) (List.map intE r.l)))], [(0, Blk.box (List.map AV.pv (T.Inst.enc i)))], 1⟩) := by
  refine ref26_Order_L0.partial_correctness (fun p r => O.loop 13 0 ⟨[(1, AV.ptr 0 0), (3, AV.pv (PV.sl p.1.nil (szc 1 p.1.l) (List.map intE p.1.l))), (4, AV.pv (PV.int IntKind.i64 p.2.1))], [(0, Blk.box (List.map AV.pv (T.Inst.enc p.2.2)))], 1⟩ = some (Ex.normal, ⟨[(1, AV.ptr 0 0), (3, AV.pv (PV.sl r.nil (szc 1 r.l) (List.map intE r.l)))], [(0, Blk.box (List.map AV.pv (T.Inst.enc p.2.2)))], 1⟩)) ?_ (all_, k, i) r h
  clear h r all_ k i
  intro ref26_Order_L0 ih24
  rintro ⟨all_, k, i⟩ r h
  dsimp only at h ⊢
  by_cases h1 : (decide (k < (i.stops.l.length : Int))) = true
  rw [if_pos h1] at h
  obtain ⟨x3, h2, h⟩ := Option.bind_eq_some_iff.1 h
  have f1 := geti_nat h2 IntKind.i64
  have f2 := geti_map T.Stop.enc h2
  try simp only [T.Stop.enc_eq, encx.down, Nat.zero_add, Nat.reduceAdd] at f2
  have f3 := geti_szcT h2 18
  obtain ⟨v5, h4, h⟩ := Option.bind_eq_some_iff.1 h
  have f4 := ref20_Put_ok h4
  try simp only [intE, encx.down, Nat.zero_add, Nat.reduceAdd] at f4
  have f5 := ih24 _ _ h
  try dsimp only at f5
  try simp only [T.Inst.enc_eq, intE, encx.down, Nat.zero_add, Nat.reduceAdd] at f5
  clear h
  clear ih24
  rotate_left
  rw [if_neg h1] at h; replace h1 := Bool.eq_false_iff.2 h1
  cases h
  clear ih24
  rotate_left
  all_goals
    refine omega_L fn13 (by rfl) ?_
    simp (disch := first | assumption | rfl | exact Sure.mk (by kernel_rfl)) only [coreG.down, tab.down, ↓reduceIte, Nat.reduceLeDiff, Nat.reduceEqDiff, Nat.reduceLT, Nat.reduceAdd, Nat.reduceSub, Nat.reduceMul, reduceCtorEq, Nat.reducePow, needs, aop, aBin, intBin, aLoad, List.toList_toArray, avOf, pvOf, allPV, List.take, List.drop, List.length_cons, List.length_nil, List.length_map, aStore, AV.stor, AV.cells, List.append, aFieldAddr, List.getElem?_cons_zero, List.getElem?_cons_succ, subHeap, AV.refs, AV.ren, AV.rows, if_true, if_false, List.nil_append, List.append_nil, List.cons_append, tupled, unz, aBuiltin, lenTd, aLen, ptrRows, List.getElem?_nil, touched, List.isEmpty_nil, Option.some.injEq, aUn, pure?, PV.cells, List.replicate, List.set_cons_zero, List.set_cons_succ, aConvert, strBin, sliceOf, eq_self, AV.thaw, Blk.thaw, aSlice, aNil, isNilV, aEq, plainEq, fitAll, keyFits, aMax, maxFrom, aPart, Blk.ren, Blk.refs, List.flatMap_nil, List.flatMap_cons, List.map_cons, List.map_nil, List.drop_zero, Option.isSome_none, Option.isNone_none, Option.isSome_some, Option.isNone_some, sp13_0, sp13_2, sp13_4, sp13_6, T.Inst.enc_eq, intE, *]
def ref26_among_L0_enc (l : (List Int)) : ((Bool) ⊕ (Unit)) → Ex × St
  | .inl y => (Ex.ret, ⟨[(4, AV.pv (PV.bool y))], [(0, Blk.row l.isEmpty (szc 1 l) (List.map intE l))], 1⟩)
  | .inr y => (Ex.normal, ⟨[(4, AV.undef)], [(0, Blk.row l.isEmpty (szc 1 l) (List.map intE l))], 1⟩)
set_option maxHeartbeats 4000000 in
theorem ref26_among_L0_ok {n : Int} {i : Int} {l : (List Int)} {r : ((Bool) ⊕ (Unit))} (h : ref26_among_L0 (n, i, l) = some r) :
    O.loop 38 0 ⟨[(0, AV.row 0 l.length 0 l.length), (1, AV.pv (PV.int IntKind.i64 n)), (5, AV.pv (PV.int IntKind.i64 i))], [(0, Blk.row l.isEmpty (szc 1 l) (List.map intE l))], 1⟩ = some (ref26_among_L0_enc l r) := by
  refine ref26_among_L0.partial_correctness (fun p r => O.loop 38 0 ⟨[(0, AV.row 0 p.2.2.length 0 p.2.2.length), (1, AV.pv (PV.int IntKind.i64 p.1)), (5, AV.pv (PV.int IntKind.i64 p.2.1))], [(0, Blk.row p.2.2.isEmpty (szc 1 p.2.2) (List.map intE p.2.2))], 1⟩ = some (ref26_among_L0_enc p.2.2 r)) ?_ (n, i, l) r h
  clear h r n i l
  intro ref26_among_L0 ih30
  rintro ⟨n, i, l⟩ r h
  dsimp only at h ⊢
  by_cases h1 : (decide (i < (l.length : Int))) = true
  rw [if_pos h1] at h
  obtain ⟨x3, h2, h⟩ := Option.bind_eq_some_iff.1 h
  have f1 := geti_nat h2 IntKind.i64
  have f2 := geti_map intE h2
  try simp only [intE, encx.down, Nat.zero_add, Nat.reduceAdd] at f2
  have f3 := geti_lt h2
  have f4 := geti_ne h2
  have f5 := geti_szc h2 1
  by_cases h4 : (x3 == n) = true
  rw [if_pos h4] at h
  cases h
  show _ = some (ref26_among_L0_enc _ (.inl _))
  dsimp only [ref26_among_L0_enc]
  clear ih30
  rotate_left
  rw [if_neg h4] at h; replace h4 := Bool.eq_false_iff.2 h4
  have f6 := ih30 _ _ h
  try dsimp only at f6
  try simp only [intE, encx.down, Nat.zero_add, Nat.reduceAdd, f4, f5] at f6
  clear h
  clear ih30
  rotate_left
  rw [if_neg h1] at h; replace h1 := Bool.eq_false_iff.2 h1
  cases h
  show _ = some (ref26_among_L0_enc _ (.inr _))
  dsimp only [ref26_among_L0_enc]
  clear ih30
  rotate_left
  all_goals
    refine omega_L fn38 (by rfl) ?_
    simp (disch := first | assumption | rfl | exact Sure.mk (by kernel_rfl)) only [coreG.down, tab.down, ↓reduceIte, Nat.reduceLeDiff, Nat.reduceEqDiff, Nat.reduceLT, Nat.reduceAdd, Nat.reduceSub, Nat.reduceMul, reduceCtorEq, Nat.reducePow, needs, aop, aBin, intBin, aLoad, List.toList_toArray, avOf, pvOf, allPV, List.take, List.drop, List.length_cons, List.length_nil, List.length_map, aStore, AV.stor, AV.cells, List.append, aFieldAddr, List.getElem?_cons_zero, List.getElem?_cons_succ, subHeap, AV.refs, AV.ren, AV.rows, if_true, if_false, List.nil_append, List.append_nil, List.cons_append, tupled, unz, aBuiltin, lenTd, aLen, ptrRows, List.getElem?_nil, touched, List.isEmpty_nil, Option.some.injEq, aUn, pure?, PV.cells, List.replicate, List.set_cons_zero, List.set_cons_succ, aConvert, strBin, sliceOf, eq_self, AV.thaw, Blk.thaw, aSlice, aNil, isNilV, aEq, plainEq, fitAll, keyFits, aMax, maxFrom, aPart, Blk.ren, Blk.refs, List.flatMap_nil, List.flatMap_cons, List.map_cons, List.map_nil, List.drop_zero, Option.isSome_none, Option.isNone_none, Option.isSome_some, Option.isNone_some, sp38_0, intE, *]
set_option maxHeartbeats 4000000 in
theorem ref26_among_ok {n : Int} {r_ : (List Int)} {r : (Bool)} (h : ref26_among n r_ = some r) :
    O.call 38 [AV.row 0 r_.length 0 r_.length, AV.pv (PV.int IntKind.i64 n)] [(0, Blk.row r_.isEmpty (szc 1 r_) (List.map intE r_))] = some (AV.pv (PV.bool r), [(0, Blk.row r_.isEmpty (szc 1 r_) (List.map intE r_))]) := by
  unfold ref26_among at h
  obtain ⟨v2, h1, h⟩ := Option.bind_eq_some_iff.1 h
  have f1 := ref26_among_L0_ok h1
  try simp only [intE, encx.down, Nat.zero_add, Nat.reduceAdd] at f1
  rcases v2 with y3 | y4
  dsimp only at h
  simp only [ref26_among_L0_enc, intE, encx.down, Nat.zero_add, Nat.reduceAdd] at f1
  cases h
  rotate_left
  dsimp only at h
  simp only [ref26_among_L0_enc, intE, encx.down, Nat.zero_add, Nat.reduceAdd] at f1
  cases h
  rotate_left
  all_goals
    refine omega_F rfl fn38 (by rfl) (by rfl) rfl ?_
    simp (disch := first | assumption | rfl | exact Sure.mk (by kernel_rfl)) only [coreG.down, tab.down, ↓reduceIte, Nat.reduceLeDiff, Nat.reduceEqDiff, Nat.reduceLT, Nat.reduceAdd, Nat.reduceSub, Nat.reduceMul, reduceCtorEq, Nat.reducePow, needs, aop, aBin, intBin, aLoad, List.toList_toArray, avOf, pvOf, allPV, List.take, List.drop, List.length_cons, List.length_nil, List.length_map, aStore, AV.stor, AV.cells, List.append, aFieldAddr, List.getElem?_cons_zero, List.getElem?_cons_succ, subHeap, AV.refs, AV.ren, AV.rows, if_true, if_false, List.nil_append, List.append_nil, List.cons_append, tupled, unz, aBuiltin, lenTd, aLen, ptrRows, List.getElem?_nil, touched, List.isEmpty_nil, Option.some.injEq, aUn, pure?, PV.cells, List.replicate, List.set_cons_zero, List.set_cons_succ, aConvert, strBin, sliceOf, eq_self, AV.thaw, Blk.thaw, aSlice, aNil, isNilV, aEq, plainEq, fitAll, keyFits, aMax, maxFrom, aPart, Blk.ren, Blk.refs, List.flatMap_nil, List.flatMap_cons, List.map_cons, List.map_nil, List.drop_zero, Option.isSome_none, Option.isNone_none, Option.isSome_some, Option.isNone_some, sp38_0, intE, *]
def ref26_In_L0_enc : ((Bool) ⊕ (Unit)) → Ex × St
  | .inl y => (Ex.ret, ⟨[(6, AV.pv (PV.bool y))], [], 0⟩)
  | .inr y => (Ex.normal, ⟨[(6, AV.undef)], [], 0⟩)
set_option maxHeartbeats 4000000 in
theorem ref26_In_L0_ok {l : (Sl T.Stop)} {a : Int} {b : Int} {r : ((Bool) ⊕ (Unit))} (h : ref26_In_L0 (l, a, b) = some r) :
    O.loop 30 0 ⟨[(0, AV.pv (PV.sl l.nil (szc 18 l.l) (List.map T.Stop.enc l.l))), (1, AV.pv (PV.int IntKind.i64 a)), (2, AV.pv (PV.int IntKind.i64 b))], [], 0⟩ = some (ref26_In_L0_enc r) := by
  refine ref26_In_L0.partial_correctness (fun p r => O.loop 30 0 ⟨[(0, AV.pv (PV.sl p.1.nil (szc 18 p.1.l) (List.map T.Stop.enc p.1.l))), (1, AV.pv (PV.int IntKind.i64 p.2.1)), (2, AV.pv (PV.int IntKind.i64 p.2.2))], [], 0⟩ = some (ref26_In_L0_enc r)) ?_ (l, a, b) r h
  clear h r l a b
  intro ref26_In_L0 ih35
  rintro ⟨l, a, b⟩ r h
  dsimp only at h ⊢
  by_cases g1 : ((decide (a ≥ (0 : Int))) && (decide (a < (l.l.length : Int)))) = true
  rw [if_pos g1] at h
  rcases (by intro u0 u1; cases u0 <;> cases u1 <;> simp [Dum] : ∀ u0 u1 : Bool, (u0 && u1) = true → (u0 = true ∧ u1 = true)) (decide (a ≥ (0 : Int))) (decide (a < (l.l.length : Int))) g1 with ⟨h1, h2⟩
  clear g1
  obtain ⟨x4, h3, h⟩ := Option.bind_eq_some_iff.1 h
  have f2 := geti_nat h3 IntKind.i64
  have f3 := geti_map T.Stop.enc h3
  try simp only [T.Stop.enc_eq, encx.down, Nat.zero_add, Nat.reduceAdd] at f3
  have f4 := geti_szcT h3 18
  by_cases h5 : (decide (x4.up ≥ (0 : Int))) = true
  rw [if_pos h5] at h
  by_cases h6 : (decide (x4.up < a)) = true
  rw [if_pos h6] at h
  by_cases h7 : (x4.up == b) = true
  rw [if_pos h7] at h
  cases h
  show _ = some (ref26_In_L0_enc (.inl _))
  dsimp only [ref26_In_L0_enc]
  clear ih35
  rotate_left
  rw [if_neg h7] at h; replace h7 := Bool.eq_false_iff.2 h7
  have f5 := ih35 _ _ h
  try dsimp only at f5
  try simp only [T.Stop.enc_eq, encx.down, Nat.zero_add, Nat.reduceAdd] at f5
  clear h
  clear ih35
  rotate_left
  rw [if_neg h6] at h; replace h6 := Bool.eq_false_iff.2 h6
  cases h
  show _ = some (ref26_In_L0_enc (.inr _))
  dsimp only [ref26_In_L0_enc]
  clear ih35
  rotate_left
  rw [if_neg h5] at h; replace h5 := Bool.eq_false_iff.2 h5
  cases h
  show _ = some (ref26_In_L0_enc (.inr _))
  dsimp only [ref26_In_L0_enc]
  clear ih35
  rotate_left
  focus
    rw [if_neg g1] at h; replace g1 := Bool.eq_false_iff.2 g1
    rcases (by intro u0 u1; cases u0 <;> cases u1 <;> simp [Dum] : ∀ u0 u1 : Bool, (u0 && u1) = false → (u0 = false ∧ Dum) ∨ (u0 = true ∧ u1 = false)) (decide (a ≥ (0 : Int))) (decide (a < (l.l.length : Int))) g1 with ⟨h1, h2⟩ | ⟨h1, h2⟩
    clear g1
    all_goals
      cases h
      show _ = some (ref26_In_L0_enc (.inr _))
      dsimp only [ref26_In_L0_enc]
      clear ih35
      rotate_left
  rotate_left 2
  all_goals
    refine omega_L fn30 (by rfl) ?_
    simp (disch := first | assumption | rfl | exact Sure.mk (by kernel_rfl)) only [coreG.down, tab.down, ↓reduceIte, Nat.reduceLeDiff, Nat.reduceEqDiff, Nat.reduceLT, Nat.reduceAdd, Nat.reduceSub, Nat.reduceMul, reduceCtorEq, Nat.reducePow, needs, aop, aBin, intBin, aLoad, List.toList_toArray, avOf, pvOf, allPV, List.take, List.drop, List.length_cons, List.length_nil, List.length_map, aStore, AV.stor, AV.cells, List.append, aFieldAddr, List.getElem?_cons_zero, List.getElem?_cons_succ, subHeap, AV.refs, AV.ren, AV.rows, if_true, if_false, List.nil_append, List.append_nil, List.cons_append, tupled, unz, aBuiltin, lenTd, aLen, ptrRows, List.getElem?_nil, touched, List.isEmpty_nil, Option.some.injEq, aUn, pure?, PV.cells, List.replicate, List.set_cons_zero, List.set_cons_succ, aConvert, strBin, sliceOf, eq_self, AV.thaw, Blk.thaw, aSlice, aNil, isNilV, aEq, plainEq, fitAll, keyFits, aMax, maxFrom, aPart, Blk.ren, Blk.refs, List.flatMap_nil, List.flatMap_cons, List.map_cons, List.map_nil, List.drop_zero, Option.isSome_none, Option.isNone_none, Option.isSome_some, Option.isNone_some, sp30_0, T.Stop.enc_eq, *]
set_option maxHeartbeats 4000000 in
theorem ref26_In_ok {l : (Sl T.Stop)} {a : Int} {b : Int} {r : (Bool)} (h : ref26_In l a b = some r) :
    O.call 30 [AV.pv (PV.sl l.nil (szc 18 l.l) (List.map T.Stop.enc l.l)), AV.pv (PV.int IntKind.i64 a), AV.pv (PV.int IntKind.i64 b)] [] = some (AV.pv (PV.bool r), []) := by
  unfold ref26_In at h
  obtain ⟨v2, h1, h⟩ := Option.bind_eq_some_iff.1 h
  have f1 := ref26_In_L0_ok h1
  try simp only [T.Stop.enc_eq, encx.down, Nat.zero_add, Nat.reduceAdd] at f1
  rcases v2 with y3 | y4
  dsimp only at h
  simp only [ref26_In_L0_enc, T.Stop.enc_eq, encx.down, Nat.zero_add, Nat.reduceAdd] at f1
  cases h
  rotate_left
  dsimp only at h
  simp only [ref26_In_L0_enc, T.Stop.enc_eq, encx.down, Nat.zero_add, Nat.reduceAdd] at f1
  cases h
  rotate_left
  all_goals
    refine omega_F rfl fn30 (by rfl) (by rfl) rfl ?_
    simp (disch := first | assumption | rfl | exact Sure.mk (by kernel_rfl)) only [coreG.down, tab.down, ↓reduceIte, Nat.reduceLeDiff, Nat.reduceEqDiff, Nat.reduceLT, Nat.reduceAdd, Nat.reduceSub, Nat.reduceMul, reduceCtorEq, Nat.reducePow, needs, aop, aBin, intBin, aLoad, List.toList_toArray, avOf, pvOf, allPV, List.take, List.drop, List.length_cons, List.length_nil, List.length_map, aStore, AV.stor, AV.cells, List.append, aFieldAddr, List.getElem?_cons_zero, List.getElem?_cons_succ, subHeap, AV.refs, AV.ren, AV.rows, if_true, if_false, List.nil_append, List.append_nil, List.cons_append, tupled, unz, aBuiltin, lenTd, aLen, ptrRows, List.getElem?_nil, touched, List.isEmpty_nil, Option.some.injEq, aUn, pure?, PV.cells, List.replicate, List.set_cons_zero, List.set_cons_succ, aConvert, strBin, sliceOf, eq_self, AV.thaw, Blk.thaw, aSlice, aNil, isNilV, aEq, plainEq, fitAll, keyFits, aMax, maxFrom, aPart, Blk.ren, Blk.refs, List.flatMap_nil, List.flatMap_cons, List.map_cons, List.map_nil, List.drop_zero, Option.isSome_none, Option.isNone_none, Option.isSome_some, Option.isNone_some, sp30_0, T.Stop.enc_eq, *]
def ref26_free_L2_enc (l : (Sl T.Stop)) (n : Int) (a : Int) (told : (List Int)) : ((Bool) ⊕ (Unit)) → Ex × St
  | .inl y => (Ex.ret, ⟨[(0, AV.pv (PV.sl l.nil (szc 18 l.l) (List.map T.Stop.enc l.l))), (1, AV.pv (PV.int IntKind.i64 n)), (2, AV.row 0 told.length 0 told.length), (6, AV.pv (PV.bool y)), (7, AV.pv (PV.int IntKind.i64 a))], [(0, Blk.row told.isEmpty (szc 1 told) (List.map intE told))], 1⟩)
  | .inr y => (Ex.normal, ⟨[(0, AV.pv (PV.sl l.nil (szc 18 l.l) (List.map T.Stop.enc l.l))), (1, AV.pv (PV.int IntKind.i64 n)), (2, AV.row 0 told.length 0 told.length), (6, AV.undef), (7, AV.pv (PV.int IntKind.i64 a))], [(0, Blk.row told.isEmpty (szc 1 told) (List.map intE told))], 1⟩)
set_option maxHeartbeats 4000000 in
theorem ref26_free_L2_ok {l : (Sl T.Stop)} {n : Int} {a : Int} {b : Int} {told : (List Int)} {r : ((Bool) ⊕ (Unit))} (h : ref26_free_L2 (l, n, a, b, told) = some r) :
    O.loop 39 2 ⟨[(0, AV.pv (PV.sl l.nil (szc 18 l.l) (List.map T.Stop.enc l.l))), (1, AV.pv (PV.int IntKind.i64 n)), (2, AV.row 0 told.length 0 told.length), (7, AV.pv (PV.int IntKind.i64 a)), (8, AV.pv (PV.int IntKind.i64 b))], [(0, Blk.row told.isEmpty (szc 1 told) (List.map intE told))], 1⟩ = some (ref26_free_L2_enc l n a told r) := by
  refine ref26_free_L2.partial_correctness (fun p r => O.loop 39 2 ⟨[(0, AV.pv (PV.sl p.1.nil (szc 18 p.1.l) (List.map T.Stop.enc p.1.l))), (1, AV.pv (PV.int IntKind.i64 p.2.1)), (2, AV.row 0 p.2.2.2.2.length 0 p.2.2.2.2.length), (7, AV.pv (PV.int IntKind.i64 p.2.2.1)), (8, AV.pv (PV.int IntKind.i64 p.2.2.2.1))], [(0, Blk.row p.2.2.2.2.isEmpty (szc 1 p.2.2.2.2) (List.map intE p.2.2.2.2))], 1⟩ = some (ref26_free_L2_enc p.1 p.2.1 p.2.2.1 p.2.2.2.2 r)) ?_ (l, n, a, b, told) r h
  clear h r l n a b told
  intro ref26_free_L2 ih33
  rintro ⟨l, n, a, b, told⟩ r h
  dsimp only at h ⊢
  by_cases h1 : (decide (b < (l.l.length : Int))) = true
  rw [if_pos h1] at h
  obtain ⟨x3, h2, h⟩ := Option.bind_eq_some_iff.1 h
  have f1 := geti_nat h2 IntKind.i64
  have f2 := geti_map T.Stop.enc h2
  try simp only [T.Stop.enc_eq, encx.down, Nat.zero_add, Nat.reduceAdd] at f2
  have f3 := geti_szcT h2 18
  by_cases h4 : (x3.n == n) = true
  rw [if_pos h4] at h
  obtain ⟨v6, h5, h⟩ := Option.bind_eq_some_iff.1 h
  have f4 := ref26_In_ok h5
  try simp only [T.Stop.enc_eq, encx.down, Nat.zero_add, Nat.reduceAdd] at f4
  by_cases h7 : v6 = true
  rw [if_pos h7] at h
  try simp only [h7] at f4
  cases h
  show _ = some (ref26_free_L2_enc _ _ _ _ (.inl _))
  dsimp only [ref26_free_L2_enc]
  clear ih33
  rotate_left
  rw [if_neg h7] at h; replace h7 := Bool.eq_false_iff.2 h7
  try simp only [h7] at f4
  have f5 := ih33 _ _ h
  try dsimp only at f5
  try simp only [T.Stop.enc_eq, intE, encx.down, Nat.zero_add, Nat.reduceAdd] at f5
  clear h
  try simp only [h7] at f5
  clear ih33
  rotate_left
  rw [if_neg h4] at h; replace h4 := Bool.eq_false_iff.2 h4
  have f6 := ih33 _ _ h
  try dsimp only at f6
  try simp only [T.Stop.enc_eq, intE, encx.down, Nat.zero_add, Nat.reduceAdd] at f6
  clear h
  clear ih33
  rotate_left
  rw [if_neg h1] at h; replace h1 := Bool.eq_false_iff.2 h1
  cases h
  show _ = some (ref26_free_L2_enc _ _ _ _ (.inr _))
  dsimp only [ref26_free_L2_enc]
  clear ih33
  rotate_left
  all_goals
    refine omega_L fn39 (by rfl) ?_
    simp (disch := first | assumption | rfl | exact Sure.mk (by kernel_rfl)) only [coreG.down, tab.down, ↓reduceIte, Nat.reduceLeDiff, Nat.reduceEqDiff, Nat.reduceLT, Nat.reduceAdd, Nat.reduceSub, Nat.reduceMul, reduceCtorEq, Nat.reducePow, needs, aop, aBin, intBin, aLoad, List.toList_toArray, avOf, pvOf, allPV, List.take, List.drop, List.length_cons, List.length_nil, List.length_map, aStore, AV.stor, AV.cells, List.append, aFieldAddr, List.getElem?_cons_zero, List.getElem?_cons_succ, subHeap, AV.refs, AV.ren, AV.rows, if_true, if_false, List.nil_append, List.append_nil, List.cons_append, tupled, unz, aBuiltin, lenTd, aLen, ptrRows, List.getElem?_nil, touched, List.isEmpty_nil, Option.some.injEq, aUn, pure?, PV.cells, List.replicate, List.set_cons_zero, List.set_cons_succ, aConvert, strBin, sliceOf, eq_self, AV.thaw, Blk.thaw, aSlice, aNil, isNilV, aEq, plainEq, fitAll, keyFits, aMax, maxFrom, aPart, Blk.ren, Blk.refs, List.flatMap_nil, List.flatMap_cons, List.map_cons, List.map_nil, List.drop_zero, Option.isSome_none, Option.isNone_none, Option.isSome_some, Option.isNone_some, sp39_0, sp39_2, T.Stop.enc_eq, intE, *]
def ref26_free_L0_enc (told : (List Int)) : ((Bool) ⊕ (Unit)) → Ex × St
  | .inl y => (Ex.ret, ⟨[(6, AV.pv (PV.bool y))], [(0, Blk.row told.isEmpty (szc 1 told) (List.map intE told))], 1⟩)
  | .inr y => (Ex.normal, ⟨[(6, AV.undef)], [(0, Blk.row told.isEmpty (szc 1 told) (List.map intE told))], 1⟩)
set_option maxHeartbeats 4000000 in
theorem ref26_free_L0_ok {l : (Sl T.Stop)} {n : Int} {a : Int} {told : (List Int)} {r : ((Bool) ⊕ (Unit))} (h : ref26_free_L0 (l, n, a, told) = some r) :
    O.loop 39 0 ⟨[(0, AV.pv (PV.sl l.nil (szc 18 l.l) (List.map T.Stop.enc l.l))), (1, AV.pv (PV.int IntKind.i64 n)), (2, AV.row 0 told.length 0 told.length), (7, AV.pv (PV.int IntKind.i64 a))], [(0, Blk.row told.isEmpty (szc 1 told) (List.map intE told))], 1⟩ = some (ref26_free_L0_enc told r) := by
  refine ref26_free_L0.partial_correctness (fun p r => O.loop 39 0 ⟨[(0, AV.pv (PV.sl p.1.nil (szc 18 p.1.l) (List.map T.Stop.enc p.1.l))), (1, AV.pv (PV.int IntKind.i64 p.2.1)), (2, AV.row 0 p.2.2.2.length 0 p.2.2.2.length), (7, AV.pv (PV.int IntKind.i64 p.2.2.1))], [(0, Blk.row p.2.2.2.isEmpty (szc 1 p.2.2.2) (List.map intE p.2.2.2))], 1⟩ = some (ref26_free_L0_enc p.2.2.2 r)) ?_ (l, n, a, told) r h
  clear h r l n a told
  intro ref26_free_L0 ih32
  rintro ⟨l, n, a, told⟩ r h
  dsimp only at h ⊢
  by_cases h1 : (decide (a < (l.l.length : Int))) = true
  rw [if_pos h1] at h
  obtain ⟨x3, h2, h⟩ := Option.bind_eq_some_iff.1 h
  have f1 := geti_nat h2 IntKind.i64
  have f2 := geti_map T.Stop.enc h2
  try simp only [T.Stop.enc_eq, encx.down, Nat.zero_add, Nat.reduceAdd] at f2
  have f3 := geti_szcT h2 18
  by_cases h4 : (x3.n == n) = true
  rw [if_pos h4] at h
  have f4 := ih32 _ _ h
  try dsimp only at f4
  try simp only [T.Stop.enc_eq, intE, encx.down, Nat.zero_add, Nat.reduceAdd] at f4
  clear h
  clear ih32
  rotate_left
  rw [if_neg h4] at h; replace h4 := Bool.eq_false_iff.2 h4
  obtain ⟨v6, h5, h⟩ := Option.bind_eq_some_iff.1 h
  have f5 := ref26_among_ok h5
  try simp only [intE, encx.down, Nat.zero_add, Nat.reduceAdd] at f5
  by_cases h7 : v6 = true
  rw [if_pos h7] at h
  try simp only [h7] at f5
  have f6 := ih32 _ _ h
  try dsimp only at f6
  try simp only [T.Stop.enc_eq, intE, encx.down, Nat.zero_add, Nat.reduceAdd] at f6
  clear h
  try simp only [h7] at f6
  clear ih32
  rotate_left
  rw [if_neg h7] at h; replace h7 := Bool.eq_false_iff.2 h7
  obtain ⟨v9, h8, h⟩ := Option.bind_eq_some_iff.1 h
  have f7 := ref26_free_L2_ok h8
  try simp only [T.Stop.enc_eq, intE, encx.down, Nat.zero_add, Nat.reduceAdd] at f7
  rcases v9 with y10 | y11
  dsimp only at h
  simp only [ref26_free_L2_enc, T.Stop.enc_eq, intE, encx.down, Nat.zero_add, Nat.reduceAdd] at f7
  try simp only [h7] at f5 f7
  cases h
  show _ = some (ref26_free_L0_enc _ (.inl _))
  dsimp only [ref26_free_L0_enc]
  clear ih32
  rotate_left
  dsimp only at h
  simp only [ref26_free_L2_enc, T.Stop.enc_eq, intE, encx.down, Nat.zero_add, Nat.reduceAdd] at f7
  try simp only [h7] at f5 f7
  have f8 := ih32 _ _ h
  try dsimp only at f8
  try simp only [T.Stop.enc_eq, intE, encx.down, Nat.zero_add, Nat.reduceAdd] at f8
  clear h
  try simp only [h7] at f8
  clear ih32
  rotate_left
  rw [if_neg h1] at h; replace h1 := Bool.eq_false_iff.2 h1
  cases h
  show _ = some (ref26_free_L0_enc _ (.inr _))
  dsimp only [ref26_free_L0_enc]
  clear ih32
  rotate_left
  all_goals
    refine omega_L fn39 (by rfl) ?_
    simp (disch := first | assumption | rfl | exact Sure.mk (by kernel_rfl)) only [coreG.down, tab.down, ↓reduceIte, Nat.reduceLeDiff, Nat.reduceEqDiff, Nat.reduceLT, Nat.reduceAdd, Nat.reduceSub, Nat.reduceMul, reduceCtorEq, Nat.reducePow, needs, aop, aBin, intBin, aLoad, List.toList_toArray, avOf, pvOf, allPV, List.take, List.drop, List.length_cons, List.length_nil, List.length_map, aStore, AV.stor, AV.cells, List.append, aFieldAddr, List.getElem?_cons_zero, List.getElem?_cons_succ, subHeap, AV.refs, AV.ren, AV.rows, if_true, if_false, List.nil_append, List.append_nil, List.cons_append, tupled, unz, aBuiltin, lenTd, aLen, ptrRows, List.getElem?_nil, touched, List.isEmpty_nil, Option.some.injEq, aUn, pure?, PV.cells, List.replicate, List.set_cons_zero, List.set_cons_succ, aConvert, strBin, sliceOf, eq_self, AV.thaw, Blk.thaw, aSlice, aNil, isNilV, aEq, plainEq, fitAll, keyFits, aMax, maxFrom, aPart, Blk.ren, Blk.refs, List.flatMap_nil, List.flatMap_cons, List.map_cons, List.map_nil, List.drop_zero, Option.isSome_none, Option.isNone_none, Option.isSome_some, Option.isNone_some, sp39_0, sp39_2, T.Stop.enc_eq, intE, *]
set_option maxHeartbeats 4000000 in
theorem ref26_free_ok {l : (Sl T.Stop)} {n : Int} {r_ : (List Int)} {r : (Bool)} (h : ref26_free l n r_ = some r) :
    O.call 39 [AV.pv (PV.sl l.nil (szc 18 l.l) (List.map T.Stop.enc l.l)), AV.pv (PV.int IntKind.i64 n), AV.row 0 r_.length 0 r_.length] [(0, Blk.row r_.isEmpty (szc 1 r_) (List.map intE r_))] = some (AV.pv (PV.bool r), [(0, Blk.row r_.isEmpty (szc 1 r_) (List.map intE r_))]) := by
  unfold ref26_free at h
  obtain ⟨v2, h1, h⟩ := Option.bind_eq_some_iff.1 h
  have f1 := ref26_free_L0_ok h1
  try simp only [T.Stop.enc_eq, intE, encx.down, Nat.zero_add, Nat.reduceAdd] at f1
  rcases v2 with y3 | y4
  dsimp only at h
  simp only [ref26_free_L0_enc, T.Stop.enc_eq, intE, encx.down, Nat.zero_add, Nat.reduceAdd] at f1
  cases h
  rotate_left
  dsimp only at h
  simp only [ref26_free_L0_enc, T.Stop.enc_eq, intE, encx.down, Nat.zero_add, Nat.reduceAdd] at f1
  cases h
  rotate_left
  all_goals
    refine omega_F rfl fn39 (by rfl) (by rfl) rfl ?_
    simp (disch := first | assumption | rfl | exact Sure.mk (by kernel_rfl)) only [coreG.down, tab.down, ↓reduceIte, Nat.reduceLeDiff, Nat.reduceEqDiff, Nat.reduceLT, Nat.reduceAdd, Nat.reduceSub, Nat.reduceMul, reduceCtorEq, Nat.reducePow, needs, aop, aBin, intBin, aLoad, List.toList_toArray, avOf, pvOf, allPV, List.take, List.drop, List.length_cons, List.length_nil, List.length_map, aStore, AV.stor, AV.cells, List.append, aFieldAddr, List.getElem?_cons_zero, List.getElem?_cons_succ, subHeap, AV.refs, AV.ren, AV.rows, if_true, if_false, List.nil_append, List.append_nil, List.cons_append, tupled, unz, aBuiltin, lenTd, aLen, ptrRows, List.getElem?_nil, touched, List.isEmpty_nil, Option.some.injEq, aUn, pure?, PV.cells, List.replicate, List.set_cons_zero, List.set_cons_succ, aConvert, strBin, sliceOf, eq_self, AV.thaw, Blk.thaw, aSlice, aNil, isNilV, aEq, plainEq, fitAll, keyFits, aMax, maxFrom, aPart, Blk.ren, Blk.refs, List.flatMap_nil, List.flatMap_cons, List.map_cons, List.map_nil, List.drop_zero, Option.isSome_none, Option.isNone_none, Option.isSome_some, Option.isNone_some, sp39_0, sp39_2, T.Stop.enc_eq, intE, *]
set_option maxHeartbeats 4000000 in
theorem ref26_Order_L4_ok {all_ : (Sl Int)} {next : Int} {found : Bool} {k : Int} {i : T.Inst} {told : (List Int)} {r : (Int × Bool)} (h : ref26_Order_L4 (all_, next, found, k, i, told) = some r) :
    O.loop 13 4 ⟨[(1, AV.ptr 0 0), (3, AV.pv (PV.sl all_.nil (szc 1 all_.l) (List.map intE all_.l))), (5, AV.row 1 told.length 0 told.length), (6, AV.pv (PV.int IntKind.i64 next)), (7, AV.pv (PV.bool found)), (8, AV.pv (PV.int IntKind.i64 k))], [(0, Blk.box (List.map AV.pv (T.Inst.enc i))), (1, Blk.row told.isEmpty (szc 1 told) (List.map intE told))], 2⟩ = some (Ex.normal, ⟨[(1, AV.ptr 0 0), (3, AV.pv (PV.sl all_.nil (szc 1 all_.l) (List.map intE all_.l))), (5, AV.row 1 told.length 0 told.length), (6, AV.pv (PV.int IntKind.i64 r.1)), (7, AV.pv (PV.bool r.2))], [(0, Blk.box (List.map AV.pv (T.Inst.enc i))), (1, Blk.row told.isEmpty (szc 1 told) (List.map intE told))], 2⟩) := by
  refine ref26_Order_L4.partial_correctness (fun p r => O.loop 13 4 ⟨[(1, AV.ptr 0 0), (3, AV.pv (PV.sl p.1.nil (szc 1 p.1.l) (List.map intE p.1.l))), (5, AV.row 1 p.2.2.2.2.2.length 0 p.2.2.2.2.2.length), (6, AV.pv (PV.int IntKind.i64 p.2.1)), (7, AV.pv (PV.bool p.2.2.1)), (8, AV.pv (PV.int IntKind.i64 p.2.2.2.1))], [(0, Blk.box (List.map AV.pv (T.Inst.enc p.2.2.2.2.1))), (1, Blk.row p.2.2.2.2.2.isEmpty (szc 1 p.2.2.2.2.2) (List.map intE p.2.2.2.2.2))], 2⟩ = some (Ex.normal, ⟨[(1, AV.ptr 0 0), (3, AV.pv (PV.sl p.1.nil (szc 1 p.1.l) (List.map intE p.1.l))), (5, AV.row 1 p.2.2.2.2.2.length 0 p.2.2.2.2.2.length), (6, AV.pv (PV.int IntKind.i64 r.1)), (7, AV.pv (PV.bool r.2))], [(0, Blk.box (List.map AV.pv (T.Inst.enc p.2.2.2.2.1))), (1, Blk.row p.2.2.2.2.2.isEmpty (szc 1 p.2.2.2.2.2) (List.map intE p.2.2.2.2.2))], 2⟩)) ?_ (all_, next, found, k, i, told) r h
  clear h r all_ next found k i told
  intro ref26_Order_L4 ih28
  rintro ⟨all_, next, found, k, i, told⟩ r h
  dsimp only at h ⊢
  by_cases g1 : ((decide (k < (all_.l.length : Int))) && (!found)) = true
  rw [if_pos g1] at h
  rcases (by intro u0 u1; cases u0 <;> cases u1 <;> simp [Dum] : ∀ u0 u1 : Bool, (u0 && u1) = true → (u0 = true ∧ u1 = true)) (decide (k < (all_.l.length : Int))) (!found) g1 with ⟨h1, h2⟩
  clear g1
  obtain ⟨x4, h3, h⟩ := Option.bind_eq_some_iff.1 h
  have f2 := geti_nat h3 IntKind.i64
  have f3 := geti_map intE h3
  try simp only [intE, encx.down, Nat.zero_add, Nat.reduceAdd] at f3
  have f4 := geti_szcT h3 1
  obtain ⟨v6, h5, h⟩ := Option.bind_eq_some_iff.1 h
  have f5 := ref26_among_ok h5
  try simp only [intE, encx.down, Nat.zero_add, Nat.reduceAdd] at f5
  by_cases h7 : (!v6) = true
  rw [if_pos h7] at h
  obtain ⟨v9, h8, h⟩ := Option.bind_eq_some_iff.1 h
  have f6 := ref26_free_ok h8
  try simp only [T.Stop.enc_eq, intE, encx.down, Nat.zero_add, Nat.reduceAdd] at f6
  by_cases h10 : v9 = true
  rw [if_pos h10] at h
  try simp only [h10] at f5 f6
  have f7 := ih28 _ _ h
  try dsimp only at f7
  try simp only [T.Inst.enc_eq, intE, encx.down, Nat.zero_add, Nat.reduceAdd] at f7
  clear h
  try simp only [h10] at f7
  clear ih28
  rotate_left
  rw [if_neg h10] at h; replace h10 := Bool.eq_false_iff.2 h10
  try simp only [h10] at f5 f6
  have f8 := ih28 _ _ h
  try dsimp only at f8
  try simp only [T.Inst.enc_eq, intE, encx.down, Nat.zero_add, Nat.reduceAdd] at f8
  clear h
  try simp only [h10] at f8
  clear ih28
  rotate_left
  rw [if_neg h7] at h; replace h7 := Bool.eq_false_iff.2 h7
  have f9 := ih28 _ _ h
  try dsimp only at f9
  try simp only [T.Inst.enc_eq, intE, encx.down, Nat.zero_add, Nat.reduceAdd] at f9
  clear h
  clear ih28
  rotate_left
  focus
    rw [if_neg g1] at h; replace g1 := Bool.eq_false_iff.2 g1
    rcases (by intro u0 u1; cases u0 <;> cases u1 <;> simp [Dum] : ∀ u0 u1 : Bool, (u0 && u1) = false → (u0 = false ∧ Dum) ∨ (u0 = true ∧ u1 = false)) (decide (k < (all_.l.length : Int))) (!found) g1 with ⟨h1, h2⟩ | ⟨h1, h2⟩
    clear g1
    all_goals
      cases h
      clear ih28
      rotate_left
  rotate_left 2
  all_goals
    refine omega_L fn13 (by rfl) ?_
    simp (disch := first | assumption | rfl | exact Sure.mk (by kernel_rfl)) only [coreG.down, tab.down, ↓reduceIte, Nat.reduceLeDiff, Nat.reduceEqDiff, Nat.reduceLT, Nat.reduceAdd, Nat.reduceSub, Nat.reduceMul, reduceCtorEq, Nat.reducePow, needs, aop, aBin, intBin, aLoad, List.toList_toArray, avOf, pvOf, allPV, List.take, List.drop, List.length_cons, List.length_nil, List.length_map, aStore, AV.stor, AV.cells, List.append, aFieldAddr, List.getElem?_cons_zero, List.getElem?_cons_succ, subHeap, AV.refs, AV.ren, AV.rows, if_true, if_false, List.nil_append, List.append_nil, List.cons_append, tupled, unz, aBuiltin, lenTd, aLen, ptrRows, List.getElem?_nil, touched, List.isEmpty_nil, Option.some.injEq, aUn, pure?, PV.cells, List.replicate, List.set_cons_zero, List.set_cons_succ, aConvert, strBin, sliceOf, eq_self, AV.thaw, Blk.thaw, aSlice, aNil, isNilV, aEq, plainEq, fitAll, keyFits, aMax, maxFrom, aPart, Blk.ren, Blk.refs, List.flatMap_nil, List.flatMap_cons, List.map_cons, List.map_nil, List.drop_zero, Option.isSome_none, Option.isNone_none, Option.isSome_some, Option.isNone_some, sp13_0, sp13_2, sp13_4, sp13_6, T.Inst.enc_eq, intE, *]
set_option maxHeartbeats 4000000 in
theorem ref26_Order_L6_ok {all_ : (Sl Int)} {next : Int} {found : Bool} {k : Int} {i : T.Inst} {told : (List Int)} {r : (Int)} (h : ref26_Order_L6 (all_, next, found, k, i, told) = some r) :
    O.loop 13 6 ⟨[(1, AV.ptr 0 0), (3, AV.pv (PV.sl all_.nil (szc 1 all_.l) (List.map intE all_.l))), (5, AV.row 1 told.length 0 told.length), (6, AV.pv (PV.int IntKind.i64 next)), (7, AV.pv (PV.bool found)), (9, AV.pv (PV.int IntKind.i64 k))], [(0, Blk.box (List.map AV.pv (T.Inst.enc i))), (1, Blk.row told.isEmpty (szc 1 told) (List.map intE told))], 2⟩ = some (Ex.normal, ⟨[(1, AV.ptr 0 0), (3, AV.pv (PV.sl all_.nil (szc 1 all_.l) (List.map intE all_.l))), (5, AV.row 1 told.length 0 told.length), (6, AV.pv (PV.int IntKind.i64 r))], [(0, Blk.box (List.map AV.pv (T.Inst.enc i))), (1, Blk.row told.isEmpty (szc 1 told) (List.map intE told))], 2⟩) := by
  refine ref26_Order_L6.partial_correctness (fun p r => O.loop 13 6 ⟨[(1, AV.ptr 0 0), (3, AV.pv (PV.sl p.1.nil (szc 1 p.1.l) (List.map intE p.1.l))), (5, AV.row 1 p.2.2.2.2.2.length 0 p.2.2.2.2.2.length), (6, AV.pv (PV.int IntKind.i64 p.2.1)), (7, AV.pv (PV.bool p.2.2.1)), (9, AV.pv (PV.int IntKind.i64 p.2.2.2.1))], [(0, Blk.box (List.map AV.pv (T.Inst.enc p.2.2.2.2.1))), (1, Blk.row p.2.2.2.2.2.isEmpty (szc 1 p.2.2.2.2.2) (List.map intE p.2.2.2.2.2))], 2⟩ = some (Ex.normal, ⟨[(1, AV.ptr 0 0), (3, AV.pv (PV.sl p.1.nil (szc 1 p.1.l) (List.map intE p.1.l))), (5, AV.row 1 p.2.2.2.2.2.length 0 p.2.2.2.2.2.length), (6, AV.pv (PV.int IntKind.i64 r))], [(0, Blk.box (List.map AV.pv (T.Inst.enc p.2.2.2.2.1))), (1, Blk.row p.2.2.2.2.2.isEmpty (szc 1 p.2.2.2.2.2) (List.map intE p.2.2.2.2.2))], 2⟩)) ?_ (all_, next, found, k, i, told) r h
  clear h r all_ next found k i told
  intro ref26_Order_L6 ih36
  rintro ⟨all_, next, found, k, i, told⟩ r h
  dsimp only at h ⊢
  by_cases g1 : ((decide (k < (all_.l.length : Int))) && (!found)) = true
  rw [if_pos g1] at h
  rcases (by intro u0 u1; cases u0 <;> cases u1 <;> simp [Dum] : ∀ u0 u1 : Bool, (u0 && u1) = true → (u0 = true ∧ u1 = true)) (decide (k < (all_.l.length : Int))) (!found) g1 with ⟨h1, h2⟩
  clear g1
  obtain ⟨x4, h3, h⟩ := Option.bind_eq_some_iff.1 h
  have f2 := geti_nat h3 IntKind.i64
  have f3 := geti_map intE h3
  try simp only [intE, encx.down, Nat.zero_add, Nat.reduceAdd] at f3
  have f4 := geti_szcT h3 1
  obtain ⟨v6, h5, h⟩ := Option.bind_eq_some_iff.1 h
  have f5 := ref26_among_ok h5
  try simp only [intE, encx.down, Nat.zero_add, Nat.reduceAdd] at f5
  by_cases h7 : (!v6) = true
  rw [if_pos h7] at h
  have f6 := ih36 _ _ h
  try dsimp only at f6
  try simp only [T.Inst.enc_eq, intE, encx.down, Nat.zero_add, Nat.reduceAdd] at f6
  clear h
  clear ih36
  rotate_left
  rw [if_neg h7] at h; replace h7 := Bool.eq_false_iff.2 h7
  have f7 := ih36 _ _ h
  try dsimp only at f7
  try simp only [T.Inst.enc_eq, intE, encx.down, Nat.zero_add, Nat.reduceAdd] at f7
  clear h
  clear ih36
  rotate_left
  focus
    rw [if_neg g1] at h; replace g1 := Bool.eq_false_iff.2 g1
    rcases (by intro u0 u1; cases u0 <;> cases u1 <;> simp [Dum] : ∀ u0 u1 : Bool, (u0 && u1) = false → (u0 = false ∧ Dum) ∨ (u0 = true ∧ u1 = false)) (decide (k < (all_.l.length : Int))) (!found) g1 with ⟨h1, h2⟩ | ⟨h1, h2⟩
    clear g1
    all_goals
      cases h
      clear ih36
      rotate_left
  rotate_left 2
  all_goals
    refine omega_L fn13 (by rfl) ?_
    simp (disch := first | assumption | rfl | exact Sure.mk (by kernel_rfl)) only [coreG.down, tab.down, ↓reduceIte, Nat.reduceLeDiff, Nat.reduceEqDiff, Nat.reduceLT, Nat.reduceAdd, Nat.reduceSub, Nat.reduceMul, reduceCtorEq, Nat.reducePow, needs, aop, aBin, intBin, aLoad, List.toList_toArray, avOf, pvOf, allPV, List.take, List.drop, List.length_cons, List.length_nil, List.length_map, aStore, AV.stor, AV.cells, List.append, aFieldAddr, List.getElem?_cons_zero, List.getElem?_cons_succ, subHeap, AV.refs, AV.ren, AV.rows, if_true, if_false, List.nil_append, List.append_nil, List.cons_append, tupled, unz, aBuiltin, lenTd, aLen, ptrRows, List.getElem?_nil, touched, List.isEmpty_nil, Option.some.injEq, aUn, pure?, PV.cells, List.replicate, List.set_cons_zero, List.set_cons_succ, aConvert, strBin, sliceOf, eq_self, AV.thaw, Blk.thaw, aSlice, aNil, isNilV, aEq, plainEq, fitAll, keyFits, aMax, maxFrom, aPart, Blk.ren, Blk.refs, List.flatMap_nil, List.flatMap_cons, List.map_cons, List.map_nil, List.drop_zero, Option.isSome_none, Option.isNone_none, Option.isSome_some, Option.isNone_some, sp13_0, sp13_2, sp13_4, sp13_6, T.Inst.enc_eq, intE, *]
set_option maxHeartbeats 4000000 in
theorem ref26_Order_L2_ok {all_ : (Sl Int)} {i : T.Inst} {told : (List Int)} {r : ((List Int))} (h : ref26_Order_L2 (all_, i, told) = some r) :
    O.loop 13 2 ⟨[(1, AV.ptr 0 0), (3, AV.pv (PV.sl all_.nil (szc 1 all_.l) (List.map intE all_.l))), (5, AV.row 1 told.length 0 told.length)], [(0, Blk.box (List.map AV.pv (T.Inst.enc i))), (1, Blk.row told.isEmpty (szc 1 told) (List.map intE told))], 2⟩ = some (Ex.normal, ⟨[(5, AV.row 1 r.length 0 r.length)], [(0, Blk.box (List.map AV.pv (T.Inst.enc i))), (1, Blk.row r.isEmpty (szc 1 r) (List.map intE r))], 2⟩) := by
  refine ref26_Order_L2.partial_correctness (fun p r => O.loop 13 2 ⟨[(1, AV.ptr 0 0), (3, AV.pv (PV.sl p.1.nil (szc 1 p.1.l) (List.map intE p.1.l))), (5, AV.row 1 p.2.2.length 0 p.2.2.length)], [(0, Blk.box (List.map AV.pv (T.Inst.enc p.2.1))), (1, Blk.row p.2.2.isEmpty (szc 1 p.2.2) (List.map intE p.2.2))], 2⟩ = some (Ex.normal, ⟨[(5, AV.row 1 r.length 0 r.length)], [(0, Blk.box (List.map AV.pv (T.Inst.enc p.2.1))), (1, Blk.row r.isEmpty (szc 1 r) (List.map intE r))], 2⟩)) ?_ (all_, i, told) r h
  clear h r all_ i told
  intro ref26_Order_L2 ih27
  rintro ⟨all_, i, told⟩ r h
  dsimp only at h ⊢
  by_cases h1 : (decide ((told.length : Int) < (all_.l.length : Int))) = true
  rw [if_pos h1] at h
  obtain ⟨v3, h2, h⟩ := Option.bind_eq_some_iff.1 h
  have f1 := ref26_Order_L4_ok h2
  try simp only [T.Inst.enc_eq, intE, encx.down, Nat.zero_add, Nat.reduceAdd] at f1
  obtain ⟨v5, h4, h⟩ := Option.bind_eq_some_iff.1 h
  have f2 := ref26_Order_L6_ok h4
  try simp only [T.Inst.enc_eq, intE, encx.down, Nat.zero_add, Nat.reduceAdd] at f2
  by_cases h6 : ¬ (roomOK (told.length + 1) 8 = true)
  rw [if_neg h6] at h; cases h
  replace h6 := Decidable.of_not_not h6; rw [if_pos h6] at h
  have f3 := h6
  have f4 := fun te β nx c0 (h1 : 1 = te.size) (h2 : roomOK (told.length + 1) te.bytes = true) => rowApp_G te β 1 nx intE told c0 [] h1 h2
  have f5 : List.map intE told ++ [[PV.int IntKind.i64 v5]] = List.map intE (told ++ [v5]) := by simp only [List.map_append, List.map_cons, List.map_nil, u8_nat, u8_wrap, szc_nil, intE]
  have f6 := ih27 _ _ h
  try dsimp only at f6
  try simp only [T.Inst.enc_eq, intE, encx.down, Nat.zero_add, Nat.reduceAdd] at f6
  clear h
  clear ih27
  rotate_left
  rw [if_neg h1] at h; replace h1 := Bool.eq_false_iff.2 h1
  cases h
  clear ih27
  rotate_left
  all_goals
    refine omega_L fn13 (by rfl) ?_
    simp (disch := first | assumption | rfl | exact Sure.mk (by kernel_rfl)) only [coreG.down, tab.down, ↓reduceIte, Nat.reduceLeDiff, Nat.reduceEqDiff, Nat.reduceLT, Nat.reduceAdd, Nat.reduceSub, Nat.reduceMul, reduceCtorEq, Nat.reducePow, needs, aop, aBin, intBin, aLoad, List.toList_toArray, avOf, pvOf, allPV, List.take, List.drop, List.length_cons, List.length_nil, List.length_map, aStore, AV.stor, AV.cells, List.append, aFieldAddr, List.getElem?_cons_zero, List.getElem?_cons_succ, subHeap, AV.refs, AV.ren, AV.rows, if_true, if_false, List.nil_append, List.append_nil, List.cons_append, tupled, unz, aBuiltin, lenTd, aLen, ptrRows, List.getElem?_nil, touched, List.isEmpty_nil, Option.some.injEq, aUn, pure?, PV.cells, List.replicate, List.set_cons_zero, List.set_cons_succ, aConvert, strBin, sliceOf, eq_self, AV.thaw, Blk.thaw, aSlice, aNil, isNilV, aEq, plainEq, fitAll, keyFits, aMax, maxFrom, aPart, Blk.ren, Blk.refs, List.flatMap_nil, List.flatMap_cons, List.map_cons, List.map_nil, List.drop_zero, Option.isSome_none, Option.isNone_none, Option.isSome_some, Option.isNone_some, sp13_0, sp13_2, sp13_4, sp13_6, T.Inst.enc_eq, intE, *]
set_option maxHeartbeats 4000000 in
theorem ref26_Order_ok {i : T.Inst} {r : ((Sl Int))} (h : ref26_Order i = some r) :
    O.call 13 [AV.pv (PV.agg (T.Inst.enc i))] [] = some (AV.pv (PV.sl r.nil (szc 1 r.l) (List.map intE r.l)), []) := by
  unfold ref26_Order at h
  obtain ⟨v2, h1, h⟩ := Option.bind_eq_some_iff.1 h
  have f1 := ref26_Order_L0_ok h1
  try simp only [T.Inst.enc_eq, intE, encx.down, Nat.zero_add, Nat.reduceAdd] at f1
  obtain ⟨v4, h3, h⟩ := Option.bind_eq_some_iff.1 h
  have f2 := ref26_Order_L2_ok h3
  try simp only [T.Inst.enc_eq, intE, encx.down, Nat.zero_add, Nat.reduceAdd] at f2
  cases h
  rotate_left
  all_goals
    refine omega_F rfl fn13 (by rfl) (by rfl) rfl ?_
    simp (disch := first | assumption | rfl | exact Sure.mk (by kernel_rfl)) only [coreG.down, tab.down, ↓reduceIte, Nat.reduceLeDiff, Nat.reduceEqDiff, Nat.reduceLT, Nat.reduceAdd, Nat.reduceSub, Nat.reduceMul, reduceCtorEq, Nat.reducePow, needs, aop, aBin, intBin, aLoad, List.toList_toArray, avOf, pvOf, allPV, List.take, List.drop, List.length_cons, List.length_nil, List.length_map, aStore, AV.stor, AV.cells, List.append, aFieldAddr, List.getElem?_cons_zero, List.getElem?_cons_succ, subHeap, AV.refs, AV.ren, AV.rows, if_true, if_false, List.nil_append, List.append_nil, List.cons_append, tupled, unz, aBuiltin, lenTd, aLen, ptrRows, List.getElem?_nil, touched, List.isEmpty_nil, Option.some.injEq, aUn, pure?, PV.cells, List.replicate, List.set_cons_zero, List.set_cons_succ, aConvert, strBin, sliceOf, eq_self, AV.thaw, Blk.thaw, aSlice, aNil, isNilV, aEq, plainEq, fitAll, keyFits, aMax, maxFrom, aPart, Blk.ren, Blk.refs, List.flatMap_nil, List.flatMap_cons, List.map_cons, List.map_nil, List.drop_zero, Option.isSome_none, Option.isNone_none, Option.isSome_some, Option.isNone_some, sp13_0, sp13_2, sp13_4, sp13_6, T.Inst.enc_eq, intE, *]
def law0_Ints_L0_enc : ((Bool) ⊕ (Unit)) → Ex × St
  | .inl y => (Ex.ret, ⟨[(4, AV.pv (PV.bool y))], [], 0⟩)
  | .inr y => (Ex.normal, ⟨[(4, AV.undef)], [], 0⟩)
set_option maxHeartbeats 4000000 in
theorem law0_Ints_L0_ok {a : (Sl Int)} {b : (Sl Int)} {i : Int} {r : ((Bool) ⊕ (Unit))} (h : law0_Ints_L0 (a, b, i) = some r) :
    O.loop 11 0 ⟨[(0, AV.pv (PV.sl a.nil (szc 1 a.l) (List.map intE a.l))), (1, AV.pv (PV.sl b.nil (szc 1 b.l) (List.map intE b.l))), (5, AV.pv (PV.int IntKind.i64 i))], [], 0⟩ = some (law0_Ints_L0_enc r) := by
  refine law0_Ints_L0.partial_correctness (fun p r => O.loop 11 0 ⟨[(0, AV.pv (PV.sl p.1.nil (szc 1 p.1.l) (List.map intE p.1.l))), (1, AV.pv (PV.sl p.2.1.nil (szc 1 p.2.1.l) (List.map intE p.2.1.l))), (5, AV.pv (PV.int IntKind.i64 p.2.2))], [], 0⟩ = some (law0_Ints_L0_enc r)) ?_ (a, b, i) r h
  clear h r a b i
  intro law0_Ints_L0 ih38
  rintro ⟨a, b, i⟩ r h
  dsimp only at h ⊢
  by_cases h1 : (decide (i < (a.l.length : Int))) = true
  rw [if_pos h1] at h
  obtain ⟨x3, h2, h⟩ := Option.bind_eq_some_iff.1 h
  have f1 := geti_nat h2 IntKind.i64
  have f2 := geti_map intE h2
  try simp only [intE, encx.down, Nat.zero_add, Nat.reduceAdd] at f2
  have f3 := geti_szcT h2 1
  obtain ⟨x5, h4, h⟩ := Option.bind_eq_some_iff.1 h
  have f4 := geti_nat h4 IntKind.i64
  have f5 := geti_map intE h4
  try simp only [intE, encx.down, Nat.zero_add, Nat.reduceAdd] at f5
  have f6 := geti_szcT h4 1
  by_cases h6 : (x3 != x5) = true
  rw [if_pos h6] at h
  cases h
  show _ = some (law0_Ints_L0_enc (.inl _))
  dsimp only [law0_Ints_L0_enc]
  clear ih38
  rotate_left
  rw [if_neg h6] at h; replace h6 := Bool.eq_false_iff.2 h6
  have f7 := ih38 _ _ h
  try dsimp only at f7
  try simp only [intE, encx.down, Nat.zero_add, Nat.reduceAdd] at f7
  clear h
  clear ih38
  rotate_left
  rw [if_neg h1] at h; replace h1 := Bool.eq_false_iff.2 h1
  cases h
  show _ = some (law0_Ints_L0_enc (.inr _))
  dsimp only [law0_Ints_L0_enc]
  clear ih38
  rotate_left
  all_goals
    refine omega_L fn11 (by rfl) ?_
    simp (disch := first | assumption | rfl | exact Sure.mk (by kernel_rfl)) only [coreG.down, tab.down, ↓reduceIte, Nat.reduceLeDiff, Nat.reduceEqDiff, Nat.reduceLT, Nat.reduceAdd, Nat.reduceSub, Nat.reduceMul, reduceCtorEq, Nat.reducePow, needs, aop, aBin, intBin, aLoad, List.toList_toArray, avOf, pvOf, allPV, List.take, List.drop, List.length_cons, List.length_nil, List.length_map, aStore, AV.stor, AV.cells, List.append, aFieldAddr, List.getElem?_cons_zero, List.getElem?_cons_succ, subHeap, AV.refs, AV.ren, AV.rows, if_true, if_false, List.nil_append, List.append_nil, List.cons_append, tupled, unz, aBuiltin, lenTd, aLen, ptrRows, List.getElem?_nil, touched, List.isEmpty_nil, Option.some.injEq, aUn, pure?, PV.cells, List.replicate, List.set_cons_zero, List.set_cons_succ, aConvert, strBin, sliceOf, eq_self, AV.thaw, Blk.thaw, aSlice, aNil, isNilV, aEq, plainEq, fitAll, keyFits, aMax, maxFrom, aPart, Blk.ren, Blk.refs, List.flatMap_nil, List.flatMap_cons, List.map_cons, List.map_nil, List.drop_zero, Option.isSome_none, Option.isNone_none, Option.isSome_some, Option.isNone_some, sp11_0, intE, *]
set_option maxHeartbeats 4000000 in
theorem law0_Ints_ok {a : (Sl Int)} {b : (Sl Int)} {r : (Bool)} (h : law0_Ints a b = some r) :
    O.call 11 [AV.pv (PV.sl a.nil (szc 1 a.l) (List.map intE a.l)), AV.pv (PV.sl b.nil (szc 1 b.l) (List.map intE b.l))] [] = some (AV.pv (PV.bool r), []) := by
  unfold law0_Ints at h
  by_cases h1 : ((a.l.length : Int) != (b.l.length : Int)) = true
  rw [if_pos h1] at h
  cases h
  rotate_left
  rw [if_neg h1] at h; replace h1 := Bool.eq_false_iff.2 h1
  obtain ⟨v3, h2, h⟩ := Option.bind_eq_some_iff.1 h
  have f1 := law0_Ints_L0_ok h2
  try simp only [intE, encx.down, Nat.zero_add, Nat.reduceAdd] at f1
  rcases v3 with y4 | y5
  dsimp only at h
  simp only [law0_Ints_L0_enc, intE, encx.down, Nat.zero_add, Nat.reduceAdd] at f1
  cases h
  rotate_left
  dsimp only at h
  simp only [law0_Ints_L0_enc, intE, encx.down, Nat.zero_add, Nat.reduceAdd] at f1
  cases h
  rotate_left
  all_goals
    refine omega_F rfl fn11 (by rfl) (by rfl) rfl ?_
    simp (disch := first | assumption | rfl | exact Sure.mk (by kernel_rfl)) only [coreG.down, tab.down, ↓reduceIte, Nat.reduceLeDiff, Nat.reduceEqDiff, Nat.reduceLT, Nat.reduceAdd, Nat.reduceSub, Nat.reduceMul, reduceCtorEq, Nat.reducePow, needs, aop, aBin, intBin, aLoad, List.toList_toArray, avOf, pvOf, allPV, List.take, List.drop, List.length_cons, List.length_nil, List.length_map, aStore, AV.stor, AV.cells, List.append, aFieldAddr, List.getElem?_cons_zero, List.getElem?_cons_succ, subHeap, AV.refs, AV.ren, AV.rows, if_true, if_false, List.nil_append, List.append_nil, List.cons_append, tupled, unz, aBuiltin, lenTd, aLen, ptrRows, List.getElem?_nil, touched, List.isEmpty_nil, Option.some.injEq, aUn, pure?, PV.cells, List.replicate, List.set_cons_zero, List.set_cons_succ, aConvert, strBin, sliceOf, eq_self, AV.thaw, Blk.thaw, aSlice, aNil, isNilV, aEq, plainEq, fitAll, keyFits, aMax, maxFrom, aPart, Blk.ren, Blk.refs, List.flatMap_nil, List.flatMap_cons, List.map_cons, List.map_nil, List.drop_zero, Option.isSome_none, Option.isNone_none, Option.isSome_some, Option.isNone_some, sp11_0, intE, *]
set_option maxHeartbeats 4000000 in
theorem law26_StopsRings_ok {ups : (Sl Int)} {ns : (Sl Int)} {r : (Bool)} (h : law26_StopsRings ups ns = some r) :
    O.call 4 [AV.pv (PV.sl ups.nil (szc 1 ups.l) (List.map intE ups.l)), AV.pv (PV.sl ns.nil (szc 1 ns.l) (List.map intE ns.l))] [] = some (AV.pv (PV.bool r), []) := by
  unfold law26_StopsRings at h
  by_cases h1 : (decide ((ups.l.length : Int) > (12 : Int))) = true
  rw [if_pos h1] at h
  obtain ⟨v3, h2, h⟩ := Option.bind_eq_some_iff.1 h
  have f1 := aw7_ok h2
  try simp only [encx.down, Nat.zero_add, Nat.reduceAdd] at f1
  cases h
  rotate_left
  rw [if_neg h1] at h; replace h1 := Bool.eq_false_iff.2 h1
  obtain ⟨v5, h4, h⟩ := Option.bind_eq_some_iff.1 h
  have f2 := law26_StopsRings_L0_ok h4
  try simp only [T.Inst.enc_eq, T.Stop.enc_eq, intE, encx.down, Nat.zero_add, Nat.reduceAdd] at f2
  obtain ⟨v7, h6, h⟩ := Option.bind_eq_some_iff.1 h
  have f3 := stops_May_ok h6
  try simp only [T.Inst.enc_eq, encx.down, Nat.zero_add, Nat.reduceAdd] at f3
  by_cases h8 : v7 = true
  rw [if_pos h8] at h
  obtain ⟨v10, h9, h⟩ := Option.bind_eq_some_iff.1 h
  have f4 := stops_Order_ok h9
  try simp only [T.Inst.enc_eq, intE, encx.down, Nat.zero_add, Nat.reduceAdd] at f4
  obtain ⟨v12, h11, h⟩ := Option.bind_eq_some_iff.1 h
  have f5 := ref26_Order_ok h11
  try simp only [T.Inst.enc_eq, intE, encx.down, Nat.zero_add, Nat.reduceAdd] at f5
  obtain ⟨v14, h13, h⟩ := Option.bind_eq_some_iff.1 h
  have f6 := law0_Ints_ok h13
  try simp only [intE, encx.down, Nat.zero_add, Nat.reduceAdd] at f6
  by_cases h15 : v14 = true
  rw [if_pos h15] at h
  obtain ⟨v17, h16, h⟩ := Option.bind_eq_some_iff.1 h
  have f7 := aw7_ok h16
  try simp only [encx.down, Nat.zero_add, Nat.reduceAdd] at f7
  try simp only [h8, h15] at f2 f3 f4 f5 f6 f7
  cases h
  rotate_left
  rw [if_neg h15] at h; replace h15 := Bool.eq_false_iff.2 h15
  try simp only [h8, h15] at f2 f3 f4 f5 f6
  cases h
  rotate_left
  rw [if_neg h8] at h; replace h8 := Bool.eq_false_iff.2 h8
  try simp only [h8] at f2 f3
  cases h
  rotate_left
  all_goals
    refine omega_F rfl fn4 (by rfl) (by rfl) rfl ?_
    simp (disch := first | assumption | rfl | exact Sure.mk (by kernel_rfl)) only [coreG.down, tab.down, ↓reduceIte, Nat.reduceLeDiff, Nat.reduceEqDiff, Nat.reduceLT, Nat.reduceAdd, Nat.reduceSub, Nat.reduceMul, reduceCtorEq, Nat.reducePow, needs, aop, aBin, intBin, aLoad, List.toList_toArray, avOf, pvOf, allPV, List.take, List.drop, List.length_cons, List.length_nil, List.length_map, aStore, AV.stor, AV.cells, List.append, aFieldAddr, List.getElem?_cons_zero, List.getElem?_cons_succ, subHeap, AV.refs, AV.ren, AV.rows, if_true, if_false, List.nil_append, List.append_nil, List.cons_append, tupled, unz, aBuiltin, lenTd, aLen, ptrRows, List.getElem?_nil, touched, List.isEmpty_nil, Option.some.injEq, aUn, pure?, PV.cells, List.replicate, List.set_cons_zero, List.set_cons_succ, aConvert, strBin, sliceOf, eq_self, AV.thaw, Blk.thaw, aSlice, aNil, isNilV, aEq, plainEq, fitAll, keyFits, aMax, maxFrom, aPart, Blk.ren, Blk.refs, List.flatMap_nil, List.flatMap_cons, List.map_cons, List.map_nil, List.drop_zero, Option.isSome_none, Option.isNone_none, Option.isSome_some, Option.isNone_some, sp4_0, sp4_2, intE, *]
end Go.Proofs.Ytdhgdeelagmbpaa
