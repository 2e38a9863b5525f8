/-
  What the machine's calls come to: the plain functions.
-/
import Derived.Test.YtdhgdeelagmbpaaSp
import Derived.Test.YtdhgdeelagmbpaaSh
import Derived.Test.YtdhgdeelagmbpaaAw
set_option linter.unusedSimpArgs false
set_option linter.unusedVariables false
set_option maxRecDepth 100000
namespace Go.Proofs.Ytdhgdeelagmbpaa
open Go Go.Gm
set_option maxHeartbeats 4000000 in
theorem span_May_ok {s : T.Span} {n : Int} {r : (Bool)} (h : span_May s n = some r) :
    O.call 26 [AV.pv (PV.agg (T.Span.enc s)), AV.pv (PV.int IntKind.i64 n)] [] = some (AV.pv (PV.bool r), []) := by
  unfold span_May at h
  by_cases g1 : ((decide (s.frm ≥ (0 : Int))) && (decide (s.frm ≤ s.to))) = true
  rw [if_pos g1] at h
  rcases (by intro u0 u1; cases u0 <;> cases u1 <;> simp [Dum] : ∀ u0 u1 : Bool, (u0 && u1) = true → (u0 = true ∧ u1 = true)) (decide (s.frm ≥ (0 : Int))) (decide (s.frm ≤ s.to)) g1 with ⟨h1, h2⟩
  clear g1
  cases h
  rotate_left
  focus
    rw [if_neg g1] at h; replace g1 := Bool.eq_false_iff.2 g1
    rcases (by intro u0 u1; cases u0 <;> cases u1 <;> simp [Dum] : ∀ u0 u1 : Bool, (u0 && u1) = false → (u0 = false ∧ Dum) ∨ (u0 = true ∧ u1 = false)) (decide (s.frm ≥ (0 : Int))) (decide (s.frm ≤ s.to)) g1 with ⟨h1, h2⟩ | ⟨h1, h2⟩
    clear g1
    all_goals
      cases h
      rotate_left
  rotate_left 2
  all_goals
    refine omega_F rfl fn26 (by rfl) (by rfl) rfl ?_
    simp (disch := first | assumption | rfl | exact Sure.mk (by kernel_rfl)) only [coreG.down, tab.down, ↓reduceIte, Nat.reduceLeDiff, Nat.reduceEqDiff, Nat.reduceLT, Nat.reduceAdd, Nat.reduceSub, Nat.reduceMul, reduceCtorEq, Nat.reducePow, needs, aop, aBin, intBin, aLoad, List.toList_toArray, avOf, pvOf, allPV, List.take, List.drop, List.length_cons, List.length_nil, List.length_map, aStore, AV.stor, AV.cells, List.append, aFieldAddr, List.getElem?_cons_zero, List.getElem?_cons_succ, subHeap, AV.refs, AV.ren, AV.rows, if_true, if_false, List.nil_append, List.append_nil, List.cons_append, tupled, unz, aBuiltin, lenTd, aLen, ptrRows, List.getElem?_nil, touched, List.isEmpty_nil, Option.some.injEq, aUn, pure?, PV.cells, List.replicate, List.set_cons_zero, List.set_cons_succ, aConvert, strBin, sliceOf, eq_self, AV.thaw, Blk.thaw, aSlice, aNil, isNilV, aEq, plainEq, fitAll, keyFits, aMax, maxFrom, aPart, Blk.ren, Blk.refs, List.flatMap_nil, List.flatMap_cons, List.map_cons, List.map_nil, List.drop_zero, Option.isSome_none, Option.isNone_none, Option.isSome_some, Option.isNone_some, T.Span.enc_eq, *]
set_option maxHeartbeats 4000000 in
theorem stops_up_ok {i : T.Inst} {k : Int} {r : (Int)} (h : stops_up i k = some r) :
    O.call 43 [AV.pv (PV.agg (T.Inst.enc i)), AV.pv (PV.int IntKind.i64 k)] [] = some (AV.pv (PV.int IntKind.i64 r), []) := by
  unfold stops_up at h
  obtain ⟨x2, h1, h⟩ := Option.bind_eq_some_iff.1 h
  have f1 := geti_nat h1 IntKind.i64
  have f2 := geti_map T.Stop.enc h1
  try simp only [T.Stop.enc_eq, encx.down, Nat.zero_add, Nat.reduceAdd] at f2
  have f3 := geti_szcT h1 18
  by_cases g4 : ((decide (x2.up ≥ (0 : Int))) && (decide (x2.up < k))) = true
  rw [if_pos g4] at h
  rcases (by intro u0 u1; cases u0 <;> cases u1 <;> simp [Dum] : ∀ u0 u1 : Bool, (u0 && u1) = true → (u0 = true ∧ u1 = true)) (decide (x2.up ≥ (0 : Int))) (decide (x2.up < k)) g4 with ⟨h3, h4⟩
  clear g4
  cases h
  rotate_left
  focus
    rw [if_neg g4] at h; replace g4 := Bool.eq_false_iff.2 g4
    rcases (by intro u0 u1; cases u0 <;> cases u1 <;> simp [Dum] : ∀ u0 u1 : Bool, (u0 && u1) = false → (u0 = false ∧ Dum) ∨ (u0 = true ∧ u1 = false)) (decide (x2.up ≥ (0 : Int))) (decide (x2.up < k)) g4 with ⟨h3, h4⟩ | ⟨h3, h4⟩
    clear g4
    all_goals
      cases h
      rotate_left
  rotate_left 2
  all_goals
    refine omega_F rfl fn43 (by rfl) (by rfl) rfl ?_
    simp (disch := first | assumption | rfl | exact Sure.mk (by kernel_rfl)) only [coreG.down, tab.down, ↓reduceIte, Nat.reduceLeDiff, Nat.reduceEqDiff, Nat.reduceLT, Nat.reduceAdd, Nat.reduceSub, Nat.reduceMul, reduceCtorEq, Nat.reducePow, needs, aop, aBin, intBin, aLoad, List.toList_toArray, avOf, pvOf, allPV, List.take, List.drop, List.length_cons, List.length_nil, List.length_map, aStore, AV.stor, AV.cells, List.append, aFieldAddr, List.getElem?_cons_zero, List.getElem?_cons_succ, subHeap, AV.refs, AV.ren, AV.rows, if_true, if_false, List.nil_append, List.append_nil, List.cons_append, tupled, unz, aBuiltin, lenTd, aLen, ptrRows, List.getElem?_nil, touched, List.isEmpty_nil, Option.some.injEq, aUn, pure?, PV.cells, List.replicate, List.set_cons_zero, List.set_cons_succ, aConvert, strBin, sliceOf, eq_self, AV.thaw, Blk.thaw, aSlice, aNil, isNilV, aEq, plainEq, fitAll, keyFits, aMax, maxFrom, aPart, Blk.ren, Blk.refs, List.flatMap_nil, List.flatMap_cons, List.map_cons, List.map_nil, List.drop_zero, Option.isSome_none, Option.isNone_none, Option.isSome_some, Option.isNone_some, T.Inst.enc_eq, *]
def stops_placed_L0_enc (k : Int) (i : T.Inst) : ((Bool) ⊕ (Unit)) → Ex × St
  | .inl y => (Ex.ret, ⟨[(1, AV.pv (PV.int IntKind.i64 k)), (2, AV.ptr 0 0), (4, AV.pv (PV.bool y))], [(0, Blk.box (List.map AV.pv (T.Inst.enc i)))], 1⟩)
  | .inr y => (Ex.normal, ⟨[(1, AV.pv (PV.int IntKind.i64 k)), (2, AV.ptr 0 0), (4, AV.undef)], [(0, Blk.box (List.map AV.pv (T.Inst.enc i)))], 1⟩)
set_option maxHeartbeats 4000000 in
theorem stops_placed_L0_ok {k : Int} {u : Int} {i : T.Inst} {r : ((Bool) ⊕ (Unit))} (h : stops_placed_L0 (k, u, i) = some r) :
    O.loop 27 0 ⟨[(1, AV.pv (PV.int IntKind.i64 k)), (2, AV.ptr 0 0), (5, AV.pv (PV.int IntKind.i64 u))], [(0, Blk.box (List.map AV.pv (T.Inst.enc i)))], 1⟩ = some (stops_placed_L0_enc k i r) := by
  refine stops_placed_L0.partial_correctness (fun p r => O.loop 27 0 ⟨[(1, AV.pv (PV.int IntKind.i64 p.1)), (2, AV.ptr 0 0), (5, AV.pv (PV.int IntKind.i64 p.2.1))], [(0, Blk.box (List.map AV.pv (T.Inst.enc p.2.2)))], 1⟩ = some (stops_placed_L0_enc p.1 p.2.2 r)) ?_ (k, u, i) r h
  clear h r k u i
  intro stops_placed_L0 ih6
  rintro ⟨k, u, i⟩ r h
  dsimp only at h ⊢
  by_cases h1 : (decide (u ≥ (0 : Int))) = true
  rw [if_pos h1] at h
  obtain ⟨x3, h2, h⟩ := Option.bind_eq_some_iff.1 h
  have f1 := geti_nat h2 IntKind.i64
  have f2 := geti_map T.Stop.enc h2
  try simp only [T.Stop.enc_eq, encx.down, Nat.zero_add, Nat.reduceAdd] at f2
  have f3 := geti_szcT h2 18
  by_cases h4 : (x3.up == u) = true
  rw [if_pos h4] at h
  cases h
  show _ = some (stops_placed_L0_enc _ _ (.inl _))
  dsimp only [stops_placed_L0_enc]
  clear ih6
  rotate_left
  rw [if_neg h4] at h; replace h4 := Bool.eq_false_iff.2 h4
  obtain ⟨v6, h5, h⟩ := Option.bind_eq_some_iff.1 h
  have f4 := stops_up_ok h5
  try simp only [T.Inst.enc_eq, encx.down, Nat.zero_add, Nat.reduceAdd] at f4
  have f5 := ih6 _ _ h
  try dsimp only at f5
  try simp only [T.Inst.enc_eq, encx.down, Nat.zero_add, Nat.reduceAdd] at f5
  clear h
  clear ih6
  rotate_left
  rw [if_neg h1] at h; replace h1 := Bool.eq_false_iff.2 h1
  cases h
  show _ = some (stops_placed_L0_enc _ _ (.inr _))
  dsimp only [stops_placed_L0_enc]
  clear ih6
  rotate_left
  all_goals
    refine omega_L fn27 (by rfl) ?_
    simp (disch := first | assumption | rfl | exact Sure.mk (by kernel_rfl)) only [coreG.down, tab.down, ↓reduceIte, Nat.reduceLeDiff, Nat.reduceEqDiff, Nat.reduceLT, Nat.reduceAdd, Nat.reduceSub, Nat.reduceMul, reduceCtorEq, Nat.reducePow, needs, aop, aBin, intBin, aLoad, List.toList_toArray, avOf, pvOf, allPV, List.take, List.drop, List.length_cons, List.length_nil, List.length_map, aStore, AV.stor, AV.cells, List.append, aFieldAddr, List.getElem?_cons_zero, List.getElem?_cons_succ, subHeap, AV.refs, AV.ren, AV.rows, if_true, if_false, List.nil_append, List.append_nil, List.cons_append, tupled, unz, aBuiltin, lenTd, aLen, ptrRows, List.getElem?_nil, touched, List.isEmpty_nil, Option.some.injEq, aUn, pure?, PV.cells, List.replicate, List.set_cons_zero, List.set_cons_succ, aConvert, strBin, sliceOf, eq_self, AV.thaw, Blk.thaw, aSlice, aNil, isNilV, aEq, plainEq, fitAll, keyFits, aMax, maxFrom, aPart, Blk.ren, Blk.refs, List.flatMap_nil, List.flatMap_cons, List.map_cons, List.map_nil, List.drop_zero, Option.isSome_none, Option.isNone_none, Option.isSome_some, Option.isNone_some, sp27_0, T.Inst.enc_eq, *]
set_option maxHeartbeats 4000000 in
theorem stops_placed_ok {i : T.Inst} {k : Int} {r : (Bool)} (h : stops_placed i k = some r) :
    O.call 27 [AV.pv (PV.agg (T.Inst.enc i)), AV.pv (PV.int IntKind.i64 k)] [] = some (AV.pv (PV.bool r), []) := by
  unfold stops_placed at h
  obtain ⟨v2, h1, h⟩ := Option.bind_eq_some_iff.1 h
  have f1 := stops_placed_L0_ok h1
  try simp only [T.Inst.enc_eq, encx.down, Nat.zero_add, Nat.reduceAdd] at f1
  rcases v2 with y3 | y4
  dsimp only at h
  simp only [stops_placed_L0_enc, T.Inst.enc_eq, encx.down, Nat.zero_add, Nat.reduceAdd] at f1
  cases h
  rotate_left
  dsimp only at h
  simp only [stops_placed_L0_enc, T.Inst.enc_eq, encx.down, Nat.zero_add, Nat.reduceAdd] at f1
  obtain ⟨x6, h5, h⟩ := Option.bind_eq_some_iff.1 h
  have f2 := geti_nat h5 IntKind.i64
  have f3 := geti_map T.Stop.enc h5
  try simp only [T.Stop.enc_eq, encx.down, Nat.zero_add, Nat.reduceAdd] at f3
  have f4 := geti_szcT h5 18
  cases h
  rotate_left
  all_goals
    refine omega_F rfl fn27 (by rfl) (by rfl) rfl ?_
    simp (disch := first | assumption | rfl | exact Sure.mk (by kernel_rfl)) only [coreG.down, tab.down, ↓reduceIte, Nat.reduceLeDiff, Nat.reduceEqDiff, Nat.reduceLT, Nat.reduceAdd, Nat.reduceSub, Nat.reduceMul, reduceCtorEq, Nat.reducePow, needs, aop, aBin, intBin, aLoad, List.toList_toArray, avOf, pvOf, allPV, List.take, List.drop, List.length_cons, List.length_nil, List.length_map, aStore, AV.stor, AV.cells, List.append, aFieldAddr, List.getElem?_cons_zero, List.getElem?_cons_succ, subHeap, AV.refs, AV.ren, AV.rows, if_true, if_false, List.nil_append, List.append_nil, List.cons_append, tupled, unz, aBuiltin, lenTd, aLen, ptrRows, List.getElem?_nil, touched, List.isEmpty_nil, Option.some.injEq, aUn, pure?, PV.cells, List.replicate, List.set_cons_zero, List.set_cons_succ, aConvert, strBin, sliceOf, eq_self, AV.thaw, Blk.thaw, aSlice, aNil, isNilV, aEq, plainEq, fitAll, keyFits, aMax, maxFrom, aPart, Blk.ren, Blk.refs, List.flatMap_nil, List.flatMap_cons, List.map_cons, List.map_nil, List.drop_zero, Option.isSome_none, Option.isNone_none, Option.isSome_some, Option.isNone_some, sp27_0, T.Inst.enc_eq, *]
set_option maxHeartbeats 4000000 in
theorem span_Within_ok {a : T.Span} {b : T.Span} {r : (Bool)} (h : span_Within a b = some r) :
    O.call 28 [AV.pv (PV.agg (T.Span.enc a)), AV.pv (PV.agg (T.Span.enc b))] [] = some (AV.pv (PV.bool r), []) := by
  unfold span_Within at h
  by_cases h1 : (decide (a.frm ≥ b.frm)) = true
  rw [if_pos h1] at h
  cases h
  rotate_left
  rw [if_neg h1] at h; replace h1 := Bool.eq_false_iff.2 h1
  cases h
  rotate_left
  all_goals
    refine omega_F rfl fn28 (by rfl) (by rfl) rfl ?_
    simp (disch := first | assumption | rfl | exact Sure.mk (by kernel_rfl)) only [coreG.down, tab.down, ↓reduceIte, Nat.reduceLeDiff, Nat.reduceEqDiff, Nat.reduceLT, Nat.reduceAdd, Nat.reduceSub, Nat.reduceMul, reduceCtorEq, Nat.reducePow, needs, aop, aBin, intBin, aLoad, List.toList_toArray, avOf, pvOf, allPV, List.take, List.drop, List.length_cons, List.length_nil, List.length_map, aStore, AV.stor, AV.cells, List.append, aFieldAddr, List.getElem?_cons_zero, List.getElem?_cons_succ, subHeap, AV.refs, AV.ren, AV.rows, if_true, if_false, List.nil_append, List.append_nil, List.cons_append, tupled, unz, aBuiltin, lenTd, aLen, ptrRows, List.getElem?_nil, touched, List.isEmpty_nil, Option.some.injEq, aUn, pure?, PV.cells, List.replicate, List.set_cons_zero, List.set_cons_succ, aConvert, strBin, sliceOf, eq_self, AV.thaw, Blk.thaw, aSlice, aNil, isNilV, aEq, plainEq, fitAll, keyFits, aMax, maxFrom, aPart, Blk.ren, Blk.refs, List.flatMap_nil, List.flatMap_cons, List.map_cons, List.map_nil, List.drop_zero, Option.isSome_none, Option.isNone_none, Option.isSome_some, Option.isNone_some, T.Span.enc_eq, *]
def stops_May_L0_enc (i : T.Inst) : ((Bool × MapII) ⊕ (MapII)) → Ex × St
  | .inl y => (Ex.ret, ⟨[(4, AV.pv (PV.bool y.1))], [(0, Blk.box (List.map AV.pv (T.Inst.enc i))), (1, Blk.map (List.map entE y.2.es) y.2.clock)], 2⟩)
  | .inr y => (Ex.normal, ⟨[(4, AV.undef)], [(0, Blk.box (List.map AV.pv (T.Inst.enc i))), (1, Blk.map (List.map entE y.es) y.clock)], 2⟩)
set_option maxHeartbeats 4000000 in
theorem stops_May_L0_ok {t18 : (Sl T.Stop)} {t19 : Int} {t20 : Int} {i : T.Inst} {ends : MapII} {r : ((Bool × MapII) ⊕ (MapII))} (h : stops_May_L0 (t18, t19, t20, i, ends) = some r) :
    O.loop 8 0 ⟨[(2, AV.ptr 0 0), (5, AV.map 1), (18, AV.pv (PV.sl t18.nil (szc 18 t18.l) (List.map T.Stop.enc t18.l))), (19, AV.pv (PV.int IntKind.i64 t19)), (20, AV.pv (PV.int IntKind.i64 t20))], [(0, Blk.box (List.map AV.pv (T.Inst.enc i))), (1, Blk.map (List.map entE ends.es) ends.clock)], 2⟩ = some (stops_May_L0_enc i r) := by
  refine stops_May_L0.partial_correctness (fun p r => O.loop 8 0 ⟨[(2, AV.ptr 0 0), (5, AV.map 1), (18, AV.pv (PV.sl p.1.nil (szc 18 p.1.l) (List.map T.Stop.enc p.1.l))), (19, AV.pv (PV.int IntKind.i64 p.2.1)), (20, AV.pv (PV.int IntKind.i64 p.2.2.1))], [(0, Blk.box (List.map AV.pv (T.Inst.enc p.2.2.2.1))), (1, Blk.map (List.map entE p.2.2.2.2.es) p.2.2.2.2.clock)], 2⟩ = some (stops_May_L0_enc p.2.2.2.1 r)) ?_ (t18, t19, t20, i, ends) r h
  clear h r t18 t19 t20 i ends
  intro stops_May_L0 ih4
  rintro ⟨t18, t19, t20, i, ends⟩ r h
  dsimp only at h ⊢
  by_cases h1 : (decide (t20 < t19)) = true
  rw [if_pos h1] at h
  obtain ⟨x3, h2, h⟩ := Option.bind_eq_some_iff.1 h
  have f1 := geti_nat h2 IntKind.i64
  have f2 := geti_map T.Stop.enc h2
  try simp only [T.Stop.enc_eq, encx.down, Nat.zero_add, Nat.reduceAdd] at f2
  have f3 := geti_szcT h2 18
  obtain ⟨v5, h4, h⟩ := Option.bind_eq_some_iff.1 h
  have f4 := stops_placed_ok h4
  try simp only [T.Inst.enc_eq, encx.down, Nat.zero_add, Nat.reduceAdd] at f4
  by_cases g5 : ((!v5) || (decide (x3.span.frm > x3.span.to))) = true
  focus
    rw [if_pos g5] at h
    rcases (by intro u0 u1; cases u0 <;> cases u1 <;> simp [Dum] : ∀ u0 u1 : Bool, (u0 || u1) = true → (u0 = true ∧ Dum) ∨ (u0 = false ∧ u1 = true)) (!v5) (decide (x3.span.frm > x3.span.to)) g5 with ⟨h6, h7⟩ | ⟨h6, h7⟩
    clear g5
    all_goals
      cases h
      show _ = some (stops_May_L0_enc _ (.inl _))
      dsimp only [stops_May_L0_enc]
      clear ih4
      rotate_left
  rotate_left 2
  rw [if_neg g5] at h; replace g5 := Bool.eq_false_iff.2 g5
  rcases (by intro u0 u1; cases u0 <;> cases u1 <;> simp [Dum] : ∀ u0 u1 : Bool, (u0 || u1) = false → (u0 = false ∧ u1 = false)) (!v5) (decide (x3.span.frm > x3.span.to)) g5 with ⟨h6, h7⟩
  clear g5
  by_cases h8 : (decide (x3.up ≥ (0 : Int))) = true
  rw [if_pos h8] at h
  obtain ⟨x10, h9, h⟩ := Option.bind_eq_some_iff.1 h
  have f6 := geti_nat h9 IntKind.i64
  have f7 := geti_map T.Stop.enc h9
  try simp only [T.Stop.enc_eq, encx.down, Nat.zero_add, Nat.reduceAdd] at f7
  have f8 := geti_szcT h9 18
  have f9 := fun b => mii_get2 b ends x3.up
  try simp only [encx.down, Nat.zero_add, Nat.reduceAdd] at f9
  obtain ⟨v12, h11, h⟩ := Option.bind_eq_some_iff.1 h
  have f10 := span_Within_ok h11
  try simp only [T.Span.enc_eq, encx.down, Nat.zero_add, Nat.reduceAdd] at f10
  by_cases g11 : ((!v12) || ((mhas ends x3.up) && (decide (x3.span.frm < (mget ends x3.up))))) = true
  focus
    rw [if_pos g11] at h
    rcases (by intro u0 u1 u2; cases u0 <;> cases u1 <;> cases u2 <;> simp [Dum] : ∀ u0 u1 u2 : Bool, (u0 || (u1 && u2)) = true → (u0 = true ∧ Dum ∧ Dum) ∨ (u0 = false ∧ u1 = true ∧ u2 = true)) (!v12) (mhas ends x3.up) (decide (x3.span.frm < (mget ends x3.up))) g11 with ⟨h13, h14, h15⟩ | ⟨h13, h14, h15⟩
    clear g11
    all_goals
      cases h
      show _ = some (stops_May_L0_enc _ (.inl _))
      dsimp only [stops_May_L0_enc]
      clear ih4
      rotate_left
  rotate_left 2
  focus
    rw [if_neg g11] at h; replace g11 := Bool.eq_false_iff.2 g11
    rcases (by intro u0 u1 u2; cases u0 <;> cases u1 <;> cases u2 <;> simp [Dum] : ∀ u0 u1 u2 : Bool, (u0 || (u1 && u2)) = false → (u0 = false ∧ u1 = false ∧ Dum) ∨ (u0 = false ∧ u1 = true ∧ u2 = false)) (!v12) (mhas ends x3.up) (decide (x3.span.frm < (mget ends x3.up))) g11 with ⟨h13, h14, h15⟩ | ⟨h13, h14, h15⟩
    clear g11
    all_goals
      have f12 := mii_put 1 ends x3.up x3.span.to
      try simp only [encx.down, Nat.zero_add, Nat.reduceAdd] at f12
      have f13 := ih4 _ _ h
      try dsimp only at f13
      try simp only [T.Inst.enc_eq, T.Stop.enc_eq, encx.down, Nat.zero_add, Nat.reduceAdd] at f13
      clear h
      clear ih4
      rotate_left
  rotate_left 2
  rw [if_neg h8] at h; replace h8 := Bool.eq_false_iff.2 h8
  have f14 := fun b => mii_get2 b ends x3.up
  try simp only [encx.down, Nat.zero_add, Nat.reduceAdd] at f14
  obtain ⟨v17, h16, h⟩ := Option.bind_eq_some_iff.1 h
  have f15 := span_Within_ok h16
  try simp only [T.Span.enc_eq, encx.down, Nat.zero_add, Nat.reduceAdd] at f15
  by_cases g16 : ((!v17) || ((mhas ends x3.up) && (decide (x3.span.frm < (mget ends x3.up))))) = true
  focus
    rw [if_pos g16] at h
    rcases (by intro u0 u1 u2; cases u0 <;> cases u1 <;> cases u2 <;> simp [Dum] : ∀ u0 u1 u2 : Bool, (u0 || (u1 && u2)) = true → (u0 = true ∧ Dum ∧ Dum) ∨ (u0 = false ∧ u1 = true ∧ u2 = true)) (!v17) (mhas ends x3.up) (decide (x3.span.frm < (mget ends x3.up))) g16 with ⟨h18, h19, h20⟩ | ⟨h18, h19, h20⟩
    clear g16
    all_goals
      cases h
      show _ = some (stops_May_L0_enc _ (.inl _))
      dsimp only [stops_May_L0_enc]
      clear ih4
      rotate_left
  rotate_left 2
  focus
    rw [if_neg g16] at h; replace g16 := Bool.eq_false_iff.2 g16
    rcases (by intro u0 u1 u2; cases u0 <;> cases u1 <;> cases u2 <;> simp [Dum] : ∀ u0 u1 u2 : Bool, (u0 || (u1 && u2)) = false → (u0 = false ∧ u1 = false ∧ Dum) ∨ (u0 = false ∧ u1 = true ∧ u2 = false)) (!v17) (mhas ends x3.up) (decide (x3.span.frm < (mget ends x3.up))) g16 with ⟨h18, h19, h20⟩ | ⟨h18, h19, h20⟩
    clear g16
    all_goals
      have f17 := mii_put 1 ends x3.up x3.span.to
      try simp only [encx.down, Nat.zero_add, Nat.reduceAdd] at f17
      have f18 := ih4 _ _ h
      try dsimp only at f18
      try simp only [T.Inst.enc_eq, T.Stop.enc_eq, encx.down, Nat.zero_add, Nat.reduceAdd] at f18
      clear h
      clear ih4
      rotate_left
  rotate_left 2
  rw [if_neg h1] at h; replace h1 := Bool.eq_false_iff.2 h1
  cases h
  show _ = some (stops_May_L0_enc _ (.inr _))
  dsimp only [stops_May_L0_enc]
  clear ih4
  rotate_left
  all_goals
    refine omega_L fn8 (by rfl) ?_
    simp (disch := first | assumption | rfl | exact Sure.mk (by kernel_rfl)) only [coreG.down, tab.down, ↓reduceIte, Nat.reduceLeDiff, Nat.reduceEqDiff, Nat.reduceLT, Nat.reduceAdd, Nat.reduceSub, Nat.reduceMul, reduceCtorEq, Nat.reducePow, needs, aop, aBin, intBin, aLoad, List.toList_toArray, avOf, pvOf, allPV, List.take, List.drop, List.length_cons, List.length_nil, List.length_map, aStore, AV.stor, AV.cells, List.append, aFieldAddr, List.getElem?_cons_zero, List.getElem?_cons_succ, subHeap, AV.refs, AV.ren, AV.rows, if_true, if_false, List.nil_append, List.append_nil, List.cons_append, tupled, unz, aBuiltin, lenTd, aLen, ptrRows, List.getElem?_nil, touched, List.isEmpty_nil, Option.some.injEq, aUn, pure?, PV.cells, List.replicate, List.set_cons_zero, List.set_cons_succ, aConvert, strBin, sliceOf, eq_self, AV.thaw, Blk.thaw, aSlice, aNil, isNilV, aEq, plainEq, fitAll, keyFits, aMax, maxFrom, aPart, Blk.ren, Blk.refs, List.flatMap_nil, List.flatMap_cons, List.map_cons, List.map_nil, List.drop_zero, Option.isSome_none, Option.isNone_none, Option.isSome_some, Option.isNone_some, sp8_0, T.Inst.enc_eq, T.Stop.enc_eq, *]
set_option maxHeartbeats 4000000 in
theorem stops_May_ok {i : T.Inst} {n : Int} {r : (Bool)} (h : stops_May i n = some r) :
    O.call 8 [AV.pv (PV.agg (T.Inst.enc i)), AV.pv (PV.int IntKind.i64 n)] [] = some (AV.pv (PV.bool r), []) := by
  unfold stops_May at h
  obtain ⟨v2, h1, h⟩ := Option.bind_eq_some_iff.1 h
  have f1 := span_May_ok h1
  try simp only [T.Span.enc_eq, encx.down, Nat.zero_add, Nat.reduceAdd] at f1
  by_cases h3 : (!v2) = true
  rw [if_pos h3] at h
  cases h
  rotate_left
  rw [if_neg h3] at h; replace h3 := Bool.eq_false_iff.2 h3
  obtain ⟨v5, h4, h⟩ := Option.bind_eq_some_iff.1 h
  have f2 := stops_May_L0_ok h4
  try simp only [T.Inst.enc_eq, T.Stop.enc_eq, encx.down, Nat.zero_add, Nat.reduceAdd] at f2
  rcases v5 with y6 | y7
  dsimp only at h
  simp only [stops_May_L0_enc, T.Inst.enc_eq, T.Stop.enc_eq, encx.down, Nat.zero_add, Nat.reduceAdd] at f2
  cases h
  rotate_left
  dsimp only at h
  simp only [stops_May_L0_enc, T.Inst.enc_eq, T.Stop.enc_eq, encx.down, Nat.zero_add, Nat.reduceAdd] at f2
  cases h
  rotate_left
  all_goals
    refine omega_F rfl fn8 (by rfl) (by rfl) rfl ?_
    simp (disch := first | assumption | rfl | exact Sure.mk (by kernel_rfl)) only [coreG.down, tab.down, ↓reduceIte, Nat.reduceLeDiff, Nat.reduceEqDiff, Nat.reduceLT, Nat.reduceAdd, Nat.reduceSub, Nat.reduceMul, reduceCtorEq, Nat.reducePow, needs, aop, aBin, intBin, aLoad, List.toList_toArray, avOf, pvOf, allPV, List.take, List.drop, List.length_cons, List.length_nil, List.length_map, aStore, AV.stor, AV.cells, List.append, aFieldAddr, List.getElem?_cons_zero, List.getElem?_cons_succ, subHeap, AV.refs, AV.ren, AV.rows, if_true, if_false, List.nil_append, List.append_nil, List.cons_append, tupled, unz, aBuiltin, lenTd, aLen, ptrRows, List.getElem?_nil, touched, List.isEmpty_nil, Option.some.injEq, aUn, pure?, PV.cells, List.replicate, List.set_cons_zero, List.set_cons_succ, aConvert, strBin, sliceOf, eq_self, AV.thaw, Blk.thaw, aSlice, aNil, isNilV, aEq, plainEq, fitAll, keyFits, aMax, maxFrom, aPart, Blk.ren, Blk.refs, List.flatMap_nil, List.flatMap_cons, List.map_cons, List.map_nil, List.drop_zero, Option.isSome_none, Option.isNone_none, Option.isSome_some, Option.isNone_some, sp8_0, T.Inst.enc_eq, *]
set_option maxHeartbeats 4000000 in
theorem ref5_May_ok {s : T.Span} {n : Int} {r : (Bool)} (h : ref5_May s n = some r) :
    O.call 29 [AV.pv (PV.agg (T.Span.enc s)), AV.pv (PV.int IntKind.i64 n)] [] = some (AV.pv (PV.bool r), []) := by
  unfold ref5_May at h
  by_cases g1 : ((decide (s.frm ≥ (0 : Int))) && (decide (s.frm ≤ s.to))) = true
  rw [if_pos g1] at h
  rcases (by intro u0 u1; cases u0 <;> cases u1 <;> simp [Dum] : ∀ u0 u1 : Bool, (u0 && u1) = true → (u0 = true ∧ u1 = true)) (decide (s.frm ≥ (0 : Int))) (decide (s.frm ≤ s.to)) g1 with ⟨h1, h2⟩
  clear g1
  cases h
  rotate_left
  focus
    rw [if_neg g1] at h; replace g1 := Bool.eq_false_iff.2 g1
    rcases (by intro u0 u1; cases u0 <;> cases u1 <;> simp [Dum] : ∀ u0 u1 : Bool, (u0 && u1) = false → (u0 = false ∧ Dum) ∨ (u0 = true ∧ u1 = false)) (decide (s.frm ≥ (0 : Int))) (decide (s.frm ≤ s.to)) g1 with ⟨h1, h2⟩ | ⟨h1, h2⟩
    clear g1
    all_goals
      cases h
      rotate_left
  rotate_left 2
  all_goals
    refine omega_F rfl fn29 (by rfl) (by rfl) rfl ?_
    simp (disch := first | assumption | rfl | exact Sure.mk (by kernel_rfl)) only [coreG.down, tab.down, ↓reduceIte, Nat.reduceLeDiff, Nat.reduceEqDiff, Nat.reduceLT, Nat.reduceAdd, Nat.reduceSub, Nat.reduceMul, reduceCtorEq, Nat.reducePow, needs, aop, aBin, intBin, aLoad, List.toList_toArray, avOf, pvOf, allPV, List.take, List.drop, List.length_cons, List.length_nil, List.length_map, aStore, AV.stor, AV.cells, List.append, aFieldAddr, List.getElem?_cons_zero, List.getElem?_cons_succ, subHeap, AV.refs, AV.ren, AV.rows, if_true, if_false, List.nil_append, List.append_nil, List.cons_append, tupled, unz, aBuiltin, lenTd, aLen, ptrRows, List.getElem?_nil, touched, List.isEmpty_nil, Option.some.injEq, aUn, pure?, PV.cells, List.replicate, List.set_cons_zero, List.set_cons_succ, aConvert, strBin, sliceOf, eq_self, AV.thaw, Blk.thaw, aSlice, aNil, isNilV, aEq, plainEq, fitAll, keyFits, aMax, maxFrom, aPart, Blk.ren, Blk.refs, List.flatMap_nil, List.flatMap_cons, List.map_cons, List.map_nil, List.drop_zero, Option.isSome_none, Option.isNone_none, Option.isSome_some, Option.isNone_some, T.Span.enc_eq, *]
def ref26_In_L0_enc : ((Bool) ⊕ (Unit)) → Ex × St
  | .inl y => (Ex.ret, ⟨[(6, AV.pv (PV.bool y))], [], 0⟩)
  | .inr y => (Ex.normal, ⟨[(6, AV.undef)], [], 0⟩)
set_option maxHeartbeats 4000000 in
theorem ref26_In_L0_ok {l : (Sl T.Stop)} {a : Int} {b : Int} {r : ((Bool) ⊕ (Unit))} (h : ref26_In_L0 (l, a, b) = some r) :
    O.loop 30 0 ⟨[(0, AV.pv (PV.sl l.nil (szc 18 l.l) (List.map T.Stop.enc l.l))), (1, AV.pv (PV.int IntKind.i64 a)), (2, AV.pv (PV.int IntKind.i64 b))], [], 0⟩ = some (ref26_In_L0_enc r) := by
  refine ref26_In_L0.partial_correctness (fun p r => O.loop 30 0 ⟨[(0, AV.pv (PV.sl p.1.nil (szc 18 p.1.l) (List.map T.Stop.enc p.1.l))), (1, AV.pv (PV.int IntKind.i64 p.2.1)), (2, AV.pv (PV.int IntKind.i64 p.2.2))], [], 0⟩ = some (ref26_In_L0_enc r)) ?_ (l, a, b) r h
  clear h r l a b
  intro ref26_In_L0 ih13
  rintro ⟨l, a, b⟩ r h
  dsimp only at h ⊢
  by_cases g1 : ((decide (a ≥ (0 : Int))) && (decide (a < (l.l.length : Int)))) = true
  rw [if_pos g1] at h
  rcases (by intro u0 u1; cases u0 <;> cases u1 <;> simp [Dum] : ∀ u0 u1 : Bool, (u0 && u1) = true → (u0 = true ∧ u1 = true)) (decide (a ≥ (0 : Int))) (decide (a < (l.l.length : Int))) g1 with ⟨h1, h2⟩
  clear g1
  obtain ⟨x4, h3, h⟩ := Option.bind_eq_some_iff.1 h
  have f2 := geti_nat h3 IntKind.i64
  have f3 := geti_map T.Stop.enc h3
  try simp only [T.Stop.enc_eq, encx.down, Nat.zero_add, Nat.reduceAdd] at f3
  have f4 := geti_szcT h3 18
  by_cases h5 : (decide (x4.up ≥ (0 : Int))) = true
  rw [if_pos h5] at h
  by_cases h6 : (decide (x4.up < a)) = true
  rw [if_pos h6] at h
  by_cases h7 : (x4.up == b) = true
  rw [if_pos h7] at h
  cases h
  show _ = some (ref26_In_L0_enc (.inl _))
  dsimp only [ref26_In_L0_enc]
  clear ih13
  rotate_left
  rw [if_neg h7] at h; replace h7 := Bool.eq_false_iff.2 h7
  have f5 := ih13 _ _ h
  try dsimp only at f5
  try simp only [T.Stop.enc_eq, encx.down, Nat.zero_add, Nat.reduceAdd] at f5
  clear h
  clear ih13
  rotate_left
  rw [if_neg h6] at h; replace h6 := Bool.eq_false_iff.2 h6
  cases h
  show _ = some (ref26_In_L0_enc (.inr _))
  dsimp only [ref26_In_L0_enc]
  clear ih13
  rotate_left
  rw [if_neg h5] at h; replace h5 := Bool.eq_false_iff.2 h5
  cases h
  show _ = some (ref26_In_L0_enc (.inr _))
  dsimp only [ref26_In_L0_enc]
  clear ih13
  rotate_left
  focus
    rw [if_neg g1] at h; replace g1 := Bool.eq_false_iff.2 g1
    rcases (by intro u0 u1; cases u0 <;> cases u1 <;> simp [Dum] : ∀ u0 u1 : Bool, (u0 && u1) = false → (u0 = false ∧ Dum) ∨ (u0 = true ∧ u1 = false)) (decide (a ≥ (0 : Int))) (decide (a < (l.l.length : Int))) g1 with ⟨h1, h2⟩ | ⟨h1, h2⟩
    clear g1
    all_goals
      cases h
      show _ = some (ref26_In_L0_enc (.inr _))
      dsimp only [ref26_In_L0_enc]
      clear ih13
      rotate_left
  rotate_left 2
  all_goals
    refine omega_L fn30 (by rfl) ?_
    simp (disch := first | assumption | rfl | exact Sure.mk (by kernel_rfl)) only [coreG.down, tab.down, ↓reduceIte, Nat.reduceLeDiff, Nat.reduceEqDiff, Nat.reduceLT, Nat.reduceAdd, Nat.reduceSub, Nat.reduceMul, reduceCtorEq, Nat.reducePow, needs, aop, aBin, intBin, aLoad, List.toList_toArray, avOf, pvOf, allPV, List.take, List.drop, List.length_cons, List.length_nil, List.length_map, aStore, AV.stor, AV.cells, List.append, aFieldAddr, List.getElem?_cons_zero, List.getElem?_cons_succ, subHeap, AV.refs, AV.ren, AV.rows, if_true, if_false, List.nil_append, List.append_nil, List.cons_append, tupled, unz, aBuiltin, lenTd, aLen, ptrRows, List.getElem?_nil, touched, List.isEmpty_nil, Option.some.injEq, aUn, pure?, PV.cells, List.replicate, List.set_cons_zero, List.set_cons_succ, aConvert, strBin, sliceOf, eq_self, AV.thaw, Blk.thaw, aSlice, aNil, isNilV, aEq, plainEq, fitAll, keyFits, aMax, maxFrom, aPart, Blk.ren, Blk.refs, List.flatMap_nil, List.flatMap_cons, List.map_cons, List.map_nil, List.drop_zero, Option.isSome_none, Option.isNone_none, Option.isSome_some, Option.isNone_some, sp30_0, T.Stop.enc_eq, *]
set_option maxHeartbeats 4000000 in
theorem ref26_In_ok {l : (Sl T.Stop)} {a : Int} {b : Int} {r : (Bool)} (h : ref26_In l a b = some r) :
    O.call 30 [AV.pv (PV.sl l.nil (szc 18 l.l) (List.map T.Stop.enc l.l)), AV.pv (PV.int IntKind.i64 a), AV.pv (PV.int IntKind.i64 b)] [] = some (AV.pv (PV.bool r), []) := by
  unfold ref26_In at h
  obtain ⟨v2, h1, h⟩ := Option.bind_eq_some_iff.1 h
  have f1 := ref26_In_L0_ok h1
  try simp only [T.Stop.enc_eq, encx.down, Nat.zero_add, Nat.reduceAdd] at f1
  rcases v2 with y3 | y4
  dsimp only at h
  simp only [ref26_In_L0_enc, T.Stop.enc_eq, encx.down, Nat.zero_add, Nat.reduceAdd] at f1
  cases h
  rotate_left
  dsimp only at h
  simp only [ref26_In_L0_enc, T.Stop.enc_eq, encx.down, Nat.zero_add, Nat.reduceAdd] at f1
  cases h
  rotate_left
  all_goals
    refine omega_F rfl fn30 (by rfl) (by rfl) rfl ?_
    simp (disch := first | assumption | rfl | exact Sure.mk (by kernel_rfl)) only [coreG.down, tab.down, ↓reduceIte, Nat.reduceLeDiff, Nat.reduceEqDiff, Nat.reduceLT, Nat.reduceAdd, Nat.reduceSub, Nat.reduceMul, reduceCtorEq, Nat.reducePow, needs, aop, aBin, intBin, aLoad, List.toList_toArray, avOf, pvOf, allPV, List.take, List.drop, List.length_cons, List.length_nil, List.length_map, aStore, AV.stor, AV.cells, List.append, aFieldAddr, List.getElem?_cons_zero, List.getElem?_cons_succ, subHeap, AV.refs, AV.ren, AV.rows, if_true, if_false, List.nil_append, List.append_nil, List.cons_append, tupled, unz, aBuiltin, lenTd, aLen, ptrRows, List.getElem?_nil, touched, List.isEmpty_nil, Option.some.injEq, aUn, pure?, PV.cells, List.replicate, List.set_cons_zero, List.set_cons_succ, aConvert, strBin, sliceOf, eq_self, AV.thaw, Blk.thaw, aSlice, aNil, isNilV, aEq, plainEq, fitAll, keyFits, aMax, maxFrom, aPart, Blk.ren, Blk.refs, List.flatMap_nil, List.flatMap_cons, List.map_cons, List.map_nil, List.drop_zero, Option.isSome_none, Option.isNone_none, Option.isSome_some, Option.isNone_some, sp30_0, T.Stop.enc_eq, *]
set_option maxHeartbeats 4000000 in
theorem ref5_Within_ok {a : T.Span} {b : T.Span} {r : (Bool)} (h : ref5_Within a b = some r) :
    O.call 31 [AV.pv (PV.agg (T.Span.enc a)), AV.pv (PV.agg (T.Span.enc b))] [] = some (AV.pv (PV.bool r), []) := by
  unfold ref5_Within at h
  by_cases h1 : (decide (a.frm ≥ b.frm)) = true
  rw [if_pos h1] at h
  cases h
  rotate_left
  rw [if_neg h1] at h; replace h1 := Bool.eq_false_iff.2 h1
  cases h
  rotate_left
  all_goals
    refine omega_F rfl fn31 (by rfl) (by rfl) rfl ?_
    simp (disch := first | assumption | rfl | exact Sure.mk (by kernel_rfl)) only [coreG.down, tab.down, ↓reduceIte, Nat.reduceLeDiff, Nat.reduceEqDiff, Nat.reduceLT, Nat.reduceAdd, Nat.reduceSub, Nat.reduceMul, reduceCtorEq, Nat.reducePow, needs, aop, aBin, intBin, aLoad, List.toList_toArray, avOf, pvOf, allPV, List.take, List.drop, List.length_cons, List.length_nil, List.length_map, aStore, AV.stor, AV.cells, List.append, aFieldAddr, List.getElem?_cons_zero, List.getElem?_cons_succ, subHeap, AV.refs, AV.ren, AV.rows, if_true, if_false, List.nil_append, List.append_nil, List.cons_append, tupled, unz, aBuiltin, lenTd, aLen, ptrRows, List.getElem?_nil, touched, List.isEmpty_nil, Option.some.injEq, aUn, pure?, PV.cells, List.replicate, List.set_cons_zero, List.set_cons_succ, aConvert, strBin, sliceOf, eq_self, AV.thaw, Blk.thaw, aSlice, aNil, isNilV, aEq, plainEq, fitAll, keyFits, aMax, maxFrom, aPart, Blk.ren, Blk.refs, List.flatMap_nil, List.flatMap_cons, List.map_cons, List.map_nil, List.drop_zero, Option.isSome_none, Option.isNone_none, Option.isSome_some, Option.isNone_some, T.Span.enc_eq, *]
def ref26_May_L2_enc (k : Int) (i : T.Inst) (x : T.Stop) (b2_ : T.Span) : ((Bool) ⊕ (Unit)) → Ex × St
  | .inl y => (Ex.ret, ⟨[(2, AV.ptr 0 0), (4, AV.pv (PV.bool y)), (5, AV.pv (PV.int IntKind.i64 k))], [(0, Blk.box (List.map AV.pv (T.Inst.enc i))), (1, Blk.box (List.map AV.pv (T.Stop.enc x))), (2, Blk.box (List.map AV.pv (T.Span.enc b2_)))], 3⟩)
  | .inr y => (Ex.normal, ⟨[(2, AV.ptr 0 0), (4, AV.undef), (5, AV.pv (PV.int IntKind.i64 k))], [(0, Blk.box (List.map AV.pv (T.Inst.enc i))), (1, Blk.box (List.map AV.pv (T.Stop.enc x))), (2, Blk.box (List.map AV.pv (T.Span.enc b2_)))], 3⟩)
set_option maxHeartbeats 4000000 in
theorem ref26_May_L2_ok {k : Int} {j : Int} {i : T.Inst} {x : T.Stop} {b2_ : T.Span} {r : ((Bool) ⊕ (Unit))} (h : ref26_May_L2 (k, j, i, x, b2_) = some r) :
    O.loop 9 2 ⟨[(2, AV.ptr 0 0), (5, AV.pv (PV.int IntKind.i64 k)), (6, AV.ptr 1 0), (8, AV.pv (PV.int IntKind.i64 j))], [(0, Blk.box (List.map AV.pv (T.Inst.enc i))), (1, Blk.box (List.map AV.pv (T.Stop.enc x))), (2, Blk.box (List.map AV.pv (T.Span.enc b2_)))], 3⟩ = some (ref26_May_L2_enc k i x b2_ r) := by
  refine ref26_May_L2.partial_correctness (fun p r => O.loop 9 2 ⟨[(2, AV.ptr 0 0), (5, AV.pv (PV.int IntKind.i64 p.1)), (6, AV.ptr 1 0), (8, AV.pv (PV.int IntKind.i64 p.2.1))], [(0, Blk.box (List.map AV.pv (T.Inst.enc p.2.2.1))), (1, Blk.box (List.map AV.pv (T.Stop.enc p.2.2.2.1))), (2, Blk.box (List.map AV.pv (T.Span.enc p.2.2.2.2)))], 3⟩ = some (ref26_May_L2_enc p.1 p.2.2.1 p.2.2.2.1 p.2.2.2.2 r)) ?_ (k, j, i, x, b2_) r h
  clear h r k j i x b2_
  intro ref26_May_L2 ih15
  rintro ⟨k, j, i, x, b2_⟩ r h
  dsimp only at h ⊢
  by_cases h1 : (decide (j < k)) = true
  rw [if_pos h1] at h
  obtain ⟨x3, h2, h⟩ := Option.bind_eq_some_iff.1 h
  have f1 := geti_nat h2 IntKind.i64
  have f2 := geti_map T.Stop.enc h2
  try simp only [T.Stop.enc_eq, encx.down, Nat.zero_add, Nat.reduceAdd] at f2
  have f3 := geti_szcT h2 18
  by_cases h4 : (x3.up == x.up) = true
  rw [if_pos h4] at h
  by_cases h5 : (decide (x.span.frm < x3.span.to)) = true
  rw [if_pos h5] at h
  cases h
  show _ = some (ref26_May_L2_enc _ _ _ _ (.inl _))
  dsimp only [ref26_May_L2_enc]
  clear ih15
  rotate_left
  rw [if_neg h5] at h; replace h5 := Bool.eq_false_iff.2 h5
  have f4 := ih15 _ _ h
  try dsimp only at f4
  try simp only [T.Inst.enc_eq, T.Span.enc_eq, T.Stop.enc_eq, encx.down, Nat.zero_add, Nat.reduceAdd] at f4
  clear h
  clear ih15
  rotate_left
  rw [if_neg h4] at h; replace h4 := Bool.eq_false_iff.2 h4
  have f5 := ih15 _ _ h
  try dsimp only at f5
  try simp only [T.Inst.enc_eq, T.Span.enc_eq, T.Stop.enc_eq, encx.down, Nat.zero_add, Nat.reduceAdd] at f5
  clear h
  clear ih15
  rotate_left
  rw [if_neg h1] at h; replace h1 := Bool.eq_false_iff.2 h1
  cases h
  show _ = some (ref26_May_L2_enc _ _ _ _ (.inr _))
  dsimp only [ref26_May_L2_enc]
  clear ih15
  rotate_left
  all_goals
    refine omega_L fn9 (by rfl) ?_
    simp (disch := first | assumption | rfl | exact Sure.mk (by kernel_rfl)) only [coreG.down, tab.down, ↓reduceIte, Nat.reduceLeDiff, Nat.reduceEqDiff, Nat.reduceLT, Nat.reduceAdd, Nat.reduceSub, Nat.reduceMul, reduceCtorEq, Nat.reducePow, needs, aop, aBin, intBin, aLoad, List.toList_toArray, avOf, pvOf, allPV, List.take, List.drop, List.length_cons, List.length_nil, List.length_map, aStore, AV.stor, AV.cells, List.append, aFieldAddr, List.getElem?_cons_zero, List.getElem?_cons_succ, subHeap, AV.refs, AV.ren, AV.rows, if_true, if_false, List.nil_append, List.append_nil, List.cons_append, tupled, unz, aBuiltin, lenTd, aLen, ptrRows, List.getElem?_nil, touched, List.isEmpty_nil, Option.some.injEq, aUn, pure?, PV.cells, List.replicate, List.set_cons_zero, List.set_cons_succ, aConvert, strBin, sliceOf, eq_self, AV.thaw, Blk.thaw, aSlice, aNil, isNilV, aEq, plainEq, fitAll, keyFits, aMax, maxFrom, aPart, Blk.ren, Blk.refs, List.flatMap_nil, List.flatMap_cons, List.map_cons, List.map_nil, List.drop_zero, Option.isSome_none, Option.isNone_none, Option.isSome_some, Option.isNone_some, sp9_0, sp9_2, T.Inst.enc_eq, T.Span.enc_eq, T.Stop.enc_eq, *]
def ref26_May_L0_enc (i : T.Inst) : ((Bool) ⊕ (Unit)) → Ex × St
  | .inl y => (Ex.ret, ⟨[(4, AV.pv (PV.bool y))], [(0, Blk.box (List.map AV.pv (T.Inst.enc i)))], 1⟩)
  | .inr y => (Ex.normal, ⟨[(4, AV.undef)], [(0, Blk.box (List.map AV.pv (T.Inst.enc i)))], 1⟩)
set_option maxHeartbeats 4000000 in
theorem ref26_May_L0_ok {k : Int} {i : T.Inst} {r : ((Bool) ⊕ (Unit))} (h : ref26_May_L0 (k, i) = some r) :
    O.loop 9 0 ⟨[(2, AV.ptr 0 0), (5, AV.pv (PV.int IntKind.i64 k))], [(0, Blk.box (List.map AV.pv (T.Inst.enc i)))], 1⟩ = some (ref26_May_L0_enc i r) := by
  refine ref26_May_L0.partial_correctness (fun p r => O.loop 9 0 ⟨[(2, AV.ptr 0 0), (5, AV.pv (PV.int IntKind.i64 p.1))], [(0, Blk.box (List.map AV.pv (T.Inst.enc p.2)))], 1⟩ = some (ref26_May_L0_enc p.2 r)) ?_ (k, i) r h
  clear h r k i
  intro ref26_May_L0 ih11
  rintro ⟨k, i⟩ r h
  dsimp only at h ⊢
  by_cases h1 : (decide (k < (i.stops.l.length : Int))) = true
  rw [if_pos h1] at h
  obtain ⟨x3, h2, h⟩ := Option.bind_eq_some_iff.1 h
  have f1 := geti_nat h2 IntKind.i64
  have f2 := geti_map T.Stop.enc h2
  try simp only [T.Stop.enc_eq, encx.down, Nat.zero_add, Nat.reduceAdd] at f2
  have f3 := geti_szcT h2 18
  by_cases h4 : (x3.up != ((-1) : Int)) = true
  rw [if_pos h4] at h
  by_cases g4 : ((decide (x3.up < (0 : Int))) || (decide (x3.up ≥ k))) = true
  focus
    rw [if_pos g4] at h
    rcases (by intro u0 u1; cases u0 <;> cases u1 <;> simp [Dum] : ∀ u0 u1 : Bool, (u0 || u1) = true → (u0 = true ∧ Dum) ∨ (u0 = false ∧ u1 = true)) (decide (x3.up < (0 : Int))) (decide (x3.up ≥ k)) g4 with ⟨h5, h6⟩ | ⟨h5, h6⟩
    clear g4
    all_goals
      cases h
      show _ = some (ref26_May_L0_enc _ (.inl _))
      dsimp only [ref26_May_L0_enc]
      clear ih11
      rotate_left
  rotate_left 2
  rw [if_neg g4] at h; replace g4 := Bool.eq_false_iff.2 g4
  rcases (by intro u0 u1; cases u0 <;> cases u1 <;> simp [Dum] : ∀ u0 u1 : Bool, (u0 || u1) = false → (u0 = false ∧ u1 = false)) (decide (x3.up < (0 : Int))) (decide (x3.up ≥ k)) g4 with ⟨h5, h6⟩
  clear g4
  by_cases h7 : (x3.up != (IntKind.i64.wrap (k - (1 : Int)))) = true
  rw [if_pos h7] at h
  obtain ⟨v9, h8, h⟩ := Option.bind_eq_some_iff.1 h
  have f5 := ref26_In_ok h8
  try simp only [T.Stop.enc_eq, encx.down, Nat.zero_add, Nat.reduceAdd] at f5
  by_cases h10 : (!v9) = true
  rw [if_pos h10] at h
  cases h
  show _ = some (ref26_May_L0_enc _ (.inl _))
  dsimp only [ref26_May_L0_enc]
  clear ih11
  rotate_left
  rw [if_neg h10] at h; replace h10 := Bool.eq_false_iff.2 h10
  by_cases h11 : (decide (x3.up ≥ (0 : Int))) = true
  rw [if_pos h11] at h
  obtain ⟨x13, h12, h⟩ := Option.bind_eq_some_iff.1 h
  have f6 := geti_nat h12 IntKind.i64
  have f7 := geti_map T.Stop.enc h12
  try simp only [T.Stop.enc_eq, encx.down, Nat.zero_add, Nat.reduceAdd] at f7
  have f8 := geti_szcT h12 18
  by_cases h14 : (decide (x3.span.frm > x3.span.to)) = true
  rw [if_pos h14] at h
  cases h
  show _ = some (ref26_May_L0_enc _ (.inl _))
  dsimp only [ref26_May_L0_enc]
  clear ih11
  rotate_left
  rw [if_neg h14] at h; replace h14 := Bool.eq_false_iff.2 h14
  obtain ⟨v16, h15, h⟩ := Option.bind_eq_some_iff.1 h
  have f9 := ref5_Within_ok h15
  try simp only [T.Span.enc_eq, encx.down, Nat.zero_add, Nat.reduceAdd] at f9
  by_cases h17 : (!v16) = true
  rw [if_pos h17] at h
  cases h
  show _ = some (ref26_May_L0_enc _ (.inl _))
  dsimp only [ref26_May_L0_enc]
  clear ih11
  rotate_left
  rw [if_neg h17] at h; replace h17 := Bool.eq_false_iff.2 h17
  obtain ⟨v19, h18, h⟩ := Option.bind_eq_some_iff.1 h
  have f10 := ref26_May_L2_ok h18
  try simp only [T.Inst.enc_eq, T.Span.enc_eq, T.Stop.enc_eq, encx.down, Nat.zero_add, Nat.reduceAdd] at f10
  rcases v19 with y20 | y21
  dsimp only at h
  simp only [ref26_May_L2_enc, T.Inst.enc_eq, T.Span.enc_eq, T.Stop.enc_eq, encx.down, Nat.zero_add, Nat.reduceAdd] at f10
  cases h
  show _ = some (ref26_May_L0_enc _ (.inl _))
  dsimp only [ref26_May_L0_enc]
  clear ih11
  rotate_left
  dsimp only at h
  simp only [ref26_May_L2_enc, T.Inst.enc_eq, T.Span.enc_eq, T.Stop.enc_eq, encx.down, Nat.zero_add, Nat.reduceAdd] at f10
  have f11 := ih11 _ _ h
  try dsimp only at f11
  try simp only [T.Inst.enc_eq, encx.down, Nat.zero_add, Nat.reduceAdd] at f11
  clear h
  clear ih11
  rotate_left
  rw [if_neg h11] at h; replace h11 := Bool.eq_false_iff.2 h11
  by_cases h22 : (decide (x3.span.frm > x3.span.to)) = true
  rw [if_pos h22] at h
  cases h
  show _ = some (ref26_May_L0_enc _ (.inl _))
  dsimp only [ref26_May_L0_enc]
  clear ih11
  rotate_left
  rw [if_neg h22] at h; replace h22 := Bool.eq_false_iff.2 h22
  obtain ⟨v24, h23, h⟩ := Option.bind_eq_some_iff.1 h
  have f12 := ref5_Within_ok h23
  try simp only [T.Span.enc_eq, encx.down, Nat.zero_add, Nat.reduceAdd] at f12
  by_cases h25 : (!v24) = true
  rw [if_pos h25] at h
  cases h
  show _ = some (ref26_May_L0_enc _ (.inl _))
  dsimp only [ref26_May_L0_enc]
  clear ih11
  rotate_left
  rw [if_neg h25] at h; replace h25 := Bool.eq_false_iff.2 h25
  obtain ⟨v27, h26, h⟩ := Option.bind_eq_some_iff.1 h
  have f13 := ref26_May_L2_ok h26
  try simp only [T.Inst.enc_eq, T.Span.enc_eq, T.Stop.enc_eq, encx.down, Nat.zero_add, Nat.reduceAdd] at f13
  rcases v27 with y28 | y29
  dsimp only at h
  simp only [ref26_May_L2_enc, T.Inst.enc_eq, T.Span.enc_eq, T.Stop.enc_eq, encx.down, Nat.zero_add, Nat.reduceAdd] at f13
  cases h
  show _ = some (ref26_May_L0_enc _ (.inl _))
  dsimp only [ref26_May_L0_enc]
  clear ih11
  rotate_left
  dsimp only at h
  simp only [ref26_May_L2_enc, T.Inst.enc_eq, T.Span.enc_eq, T.Stop.enc_eq, encx.down, Nat.zero_add, Nat.reduceAdd] at f13
  have f14 := ih11 _ _ h
  try dsimp only at f14
  try simp only [T.Inst.enc_eq, encx.down, Nat.zero_add, Nat.reduceAdd] at f14
  clear h
  clear ih11
  rotate_left
  rw [if_neg h7] at h; replace h7 := Bool.eq_false_iff.2 h7
  by_cases h30 : (decide (x3.up ≥ (0 : Int))) = true
  rw [if_pos h30] at h
  obtain ⟨x32, h31, h⟩ := Option.bind_eq_some_iff.1 h
  have f15 := geti_nat h31 IntKind.i64
  have f16 := geti_map T.Stop.enc h31
  try simp only [T.Stop.enc_eq, encx.down, Nat.zero_add, Nat.reduceAdd] at f16
  have f17 := geti_szcT h31 18
  by_cases h33 : (decide (x3.span.frm > x3.span.to)) = true
  rw [if_pos h33] at h
  cases h
  show _ = some (ref26_May_L0_enc _ (.inl _))
  dsimp only [ref26_May_L0_enc]
  clear ih11
  rotate_left
  rw [if_neg h33] at h; replace h33 := Bool.eq_false_iff.2 h33
  obtain ⟨v35, h34, h⟩ := Option.bind_eq_some_iff.1 h
  have f18 := ref5_Within_ok h34
  try simp only [T.Span.enc_eq, encx.down, Nat.zero_add, Nat.reduceAdd] at f18
  by_cases h36 : (!v35) = true
  rw [if_pos h36] at h
  cases h
  show _ = some (ref26_May_L0_enc _ (.inl _))
  dsimp only [ref26_May_L0_enc]
  clear ih11
  rotate_left
  rw [if_neg h36] at h; replace h36 := Bool.eq_false_iff.2 h36
  obtain ⟨v38, h37, h⟩ := Option.bind_eq_some_iff.1 h
  have f19 := ref26_May_L2_ok h37
  try simp only [T.Inst.enc_eq, T.Span.enc_eq, T.Stop.enc_eq, encx.down, Nat.zero_add, Nat.reduceAdd] at f19
  rcases v38 with y39 | y40
  dsimp only at h
  simp only [ref26_May_L2_enc, T.Inst.enc_eq, T.Span.enc_eq, T.Stop.enc_eq, encx.down, Nat.zero_add, Nat.reduceAdd] at f19
  cases h
  show _ = some (ref26_May_L0_enc _ (.inl _))
  dsimp only [ref26_May_L0_enc]
  clear ih11
  rotate_left
  dsimp only at h
  simp only [ref26_May_L2_enc, T.Inst.enc_eq, T.Span.enc_eq, T.Stop.enc_eq, encx.down, Nat.zero_add, Nat.reduceAdd] at f19
  have f20 := ih11 _ _ h
  try dsimp only at f20
  try simp only [T.Inst.enc_eq, encx.down, Nat.zero_add, Nat.reduceAdd] at f20
  clear h
  clear ih11
  rotate_left
  rw [if_neg h30] at h; replace h30 := Bool.eq_false_iff.2 h30
  by_cases h41 : (decide (x3.span.frm > x3.span.to)) = true
  rw [if_pos h41] at h
  cases h
  show _ = some (ref26_May_L0_enc _ (.inl _))
  dsimp only [ref26_May_L0_enc]
  clear ih11
  rotate_left
  rw [if_neg h41] at h; replace h41 := Bool.eq_false_iff.2 h41
  obtain ⟨v43, h42, h⟩ := Option.bind_eq_some_iff.1 h
  have f21 := ref5_Within_ok h42
  try simp only [T.Span.enc_eq, encx.down, Nat.zero_add, Nat.reduceAdd] at f21
  by_cases h44 : (!v43) = true
  rw [if_pos h44] at h
  cases h
  show _ = some (ref26_May_L0_enc _ (.inl _))
  dsimp only [ref26_May_L0_enc]
  clear ih11
  rotate_left
  rw [if_neg h44] at h; replace h44 := Bool.eq_false_iff.2 h44
  obtain ⟨v46, h45, h⟩ := Option.bind_eq_some_iff.1 h
  have f22 := ref26_May_L2_ok h45
  try simp only [T.Inst.enc_eq, T.Span.enc_eq, T.Stop.enc_eq, encx.down, Nat.zero_add, Nat.reduceAdd] at f22
  rcases v46 with y47 | y48
  dsimp only at h
  simp only [ref26_May_L2_enc, T.Inst.enc_eq, T.Span.enc_eq, T.Stop.enc_eq, encx.down, Nat.zero_add, Nat.reduceAdd] at f22
  cases h
  show _ = some (ref26_May_L0_enc _ (.inl _))
  dsimp only [ref26_May_L0_enc]
  clear ih11
  rotate_left
  dsimp only at h
  simp only [ref26_May_L2_enc, T.Inst.enc_eq, T.Span.enc_eq, T.Stop.enc_eq, encx.down, Nat.zero_add, Nat.reduceAdd] at f22
  have f23 := ih11 _ _ h
  try dsimp only at f23
  try simp only [T.Inst.enc_eq, encx.down, Nat.zero_add, Nat.reduceAdd] at f23
  clear h
  clear ih11
  rotate_left
  rw [if_neg h4] at h; replace h4 := Bool.eq_false_iff.2 h4
  by_cases h49 : (decide (x3.up ≥ (0 : Int))) = true
  rw [if_pos h49] at h
  obtain ⟨x51, h50, h⟩ := Option.bind_eq_some_iff.1 h
  have f24 := geti_nat h50 IntKind.i64
  have f25 := geti_map T.Stop.enc h50
  try simp only [T.Stop.enc_eq, encx.down, Nat.zero_add, Nat.reduceAdd] at f25
  have f26 := geti_szcT h50 18
  by_cases h52 : (decide (x3.span.frm > x3.span.to)) = true
  rw [if_pos h52] at h
  cases h
  show _ = some (ref26_May_L0_enc _ (.inl _))
  dsimp only [ref26_May_L0_enc]
  clear ih11
  rotate_left
  rw [if_neg h52] at h; replace h52 := Bool.eq_false_iff.2 h52
  obtain ⟨v54, h53, h⟩ := Option.bind_eq_some_iff.1 h
  have f27 := ref5_Within_ok h53
  try simp only [T.Span.enc_eq, encx.down, Nat.zero_add, Nat.reduceAdd] at f27
  by_cases h55 : (!v54) = true
  rw [if_pos h55] at h
  cases h
  show _ = some (ref26_May_L0_enc _ (.inl _))
  dsimp only [ref26_May_L0_enc]
  clear ih11
  rotate_left
  rw [if_neg h55] at h; replace h55 := Bool.eq_false_iff.2 h55
  obtain ⟨v57, h56, h⟩ := Option.bind_eq_some_iff.1 h
  have f28 := ref26_May_L2_ok h56
  try simp only [T.Inst.enc_eq, T.Span.enc_eq, T.Stop.enc_eq, encx.down, Nat.zero_add, Nat.reduceAdd] at f28
  rcases v57 with y58 | y59
  dsimp only at h
  simp only [ref26_May_L2_enc, T.Inst.enc_eq, T.Span.enc_eq, T.Stop.enc_eq, encx.down, Nat.zero_add, Nat.reduceAdd] at f28
  cases h
  show _ = some (ref26_May_L0_enc _ (.inl _))
  dsimp only [ref26_May_L0_enc]
  clear ih11
  rotate_left
  dsimp only at h
  simp only [ref26_May_L2_enc, T.Inst.enc_eq, T.Span.enc_eq, T.Stop.enc_eq, encx.down, Nat.zero_add, Nat.reduceAdd] at f28
  have f29 := ih11 _ _ h
  try dsimp only at f29
  try simp only [T.Inst.enc_eq, encx.down, Nat.zero_add, Nat.reduceAdd] at f29
  clear h
  clear ih11
  rotate_left
  rw [if_neg h49] at h; replace h49 := Bool.eq_false_iff.2 h49
  by_cases h60 : (decide (x3.span.frm > x3.span.to)) = true
  rw [if_pos h60] at h
  cases h
  show _ = some (ref26_May_L0_enc _ (.inl _))
  dsimp only [ref26_May_L0_enc]
  clear ih11
  rotate_left
  rw [if_neg h60] at h; replace h60 := Bool.eq_false_iff.2 h60
  obtain ⟨v62, h61, h⟩ := Option.bind_eq_some_iff.1 h
  have f30 := ref5_Within_ok h61
  try simp only [T.Span.enc_eq, encx.down, Nat.zero_add, Nat.reduceAdd] at f30
  by_cases h63 : (!v62) = true
  rw [if_pos h63] at h
  cases h
  show _ = some (ref26_May_L0_enc _ (.inl _))
  dsimp only [ref26_May_L0_enc]
  clear ih11
  rotate_left
  rw [if_neg h63] at h; replace h63 := Bool.eq_false_iff.2 h63
  obtain ⟨v65, h64, h⟩ := Option.bind_eq_some_iff.1 h
  have f31 := ref26_May_L2_ok h64
  try simp only [T.Inst.enc_eq, T.Span.enc_eq, T.Stop.enc_eq, encx.down, Nat.zero_add, Nat.reduceAdd] at f31
  rcases v65 with y66 | y67
  dsimp only at h
  simp only [ref26_May_L2_enc, T.Inst.enc_eq, T.Span.enc_eq, T.Stop.enc_eq, encx.down, Nat.zero_add, Nat.reduceAdd] at f31
  cases h
  show _ = some (ref26_May_L0_enc _ (.inl _))
  dsimp only [ref26_May_L0_enc]
  clear ih11
  rotate_left
  dsimp only at h
  simp only [ref26_May_L2_enc, T.Inst.enc_eq, T.Span.enc_eq, T.Stop.enc_eq, encx.down, Nat.zero_add, Nat.reduceAdd] at f31
  have f32 := ih11 _ _ h
  try dsimp only at f32
  try simp only [T.Inst.enc_eq, encx.down, Nat.zero_add, Nat.reduceAdd] at f32
  clear h
  clear ih11
  rotate_left
  rw [if_neg h1] at h; replace h1 := Bool.eq_false_iff.2 h1
  cases h
  show _ = some (ref26_May_L0_enc _ (.inr _))
  dsimp only [ref26_May_L0_enc]
  clear ih11
  rotate_left
  all_goals
    refine omega_L fn9 (by rfl) ?_
    simp (disch := first | assumption | rfl | exact Sure.mk (by kernel_rfl)) only [coreG.down, tab.down, ↓reduceIte, Nat.reduceLeDiff, Nat.reduceEqDiff, Nat.reduceLT, Nat.reduceAdd, Nat.reduceSub, Nat.reduceMul, reduceCtorEq, Nat.reducePow, needs, aop, aBin, intBin, aLoad, List.toList_toArray, avOf, pvOf, allPV, List.take, List.drop, List.length_cons, List.length_nil, List.length_map, aStore, AV.stor, AV.cells, List.append, aFieldAddr, List.getElem?_cons_zero, List.getElem?_cons_succ, subHeap, AV.refs, AV.ren, AV.rows, if_true, if_false, List.nil_append, List.append_nil, List.cons_append, tupled, unz, aBuiltin, lenTd, aLen, ptrRows, List.getElem?_nil, touched, List.isEmpty_nil, Option.some.injEq, aUn, pure?, PV.cells, List.replicate, List.set_cons_zero, List.set_cons_succ, aConvert, strBin, sliceOf, eq_self, AV.thaw, Blk.thaw, aSlice, aNil, isNilV, aEq, plainEq, fitAll, keyFits, aMax, maxFrom, aPart, Blk.ren, Blk.refs, List.flatMap_nil, List.flatMap_cons, List.map_cons, List.map_nil, List.drop_zero, Option.isSome_none, Option.isNone_none, Option.isSome_some, Option.isNone_some, sp9_0, sp9_2, T.Inst.enc_eq, *]
set_option maxHeartbeats 4000000 in
theorem ref26_May_ok {i : T.Inst} {n : Int} {r : (Bool)} (h : ref26_May i n = some r) :
    O.call 9 [AV.pv (PV.agg (T.Inst.enc i)), AV.pv (PV.int IntKind.i64 n)] [] = some (AV.pv (PV.bool r), []) := by
  unfold ref26_May at h
  obtain ⟨v2, h1, h⟩ := Option.bind_eq_some_iff.1 h
  have f1 := ref5_May_ok h1
  try simp only [T.Span.enc_eq, encx.down, Nat.zero_add, Nat.reduceAdd] at f1
  by_cases h3 : (!v2) = true
  rw [if_pos h3] at h
  cases h
  rotate_left
  rw [if_neg h3] at h; replace h3 := Bool.eq_false_iff.2 h3
  obtain ⟨v5, h4, h⟩ := Option.bind_eq_some_iff.1 h
  have f2 := ref26_May_L0_ok h4
  try simp only [T.Inst.enc_eq, encx.down, Nat.zero_add, Nat.reduceAdd] at f2
  rcases v5 with y6 | y7
  dsimp only at h
  simp only [ref26_May_L0_enc, T.Inst.enc_eq, encx.down, Nat.zero_add, Nat.reduceAdd] at f2
  cases h
  rotate_left
  dsimp only at h
  simp only [ref26_May_L0_enc, T.Inst.enc_eq, encx.down, Nat.zero_add, Nat.reduceAdd] at f2
  cases h
  rotate_left
  all_goals
    refine omega_F rfl fn9 (by rfl) (by rfl) rfl ?_
    simp (disch := first | assumption | rfl | exact Sure.mk (by kernel_rfl)) only [coreG.down, tab.down, ↓reduceIte, Nat.reduceLeDiff, Nat.reduceEqDiff, Nat.reduceLT, Nat.reduceAdd, Nat.reduceSub, Nat.reduceMul, reduceCtorEq, Nat.reducePow, needs, aop, aBin, intBin, aLoad, List.toList_toArray, avOf, pvOf, allPV, List.take, List.drop, List.length_cons, List.length_nil, List.length_map, aStore, AV.stor, AV.cells, List.append, aFieldAddr, List.getElem?_cons_zero, List.getElem?_cons_succ, subHeap, AV.refs, AV.ren, AV.rows, if_true, if_false, List.nil_append, List.append_nil, List.cons_append, tupled, unz, aBuiltin, lenTd, aLen, ptrRows, List.getElem?_nil, touched, List.isEmpty_nil, Option.some.injEq, aUn, pure?, PV.cells, List.replicate, List.set_cons_zero, List.set_cons_succ, aConvert, strBin, sliceOf, eq_self, AV.thaw, Blk.thaw, aSlice, aNil, isNilV, aEq, plainEq, fitAll, keyFits, aMax, maxFrom, aPart, Blk.ren, Blk.refs, List.flatMap_nil, List.flatMap_cons, List.map_cons, List.map_nil, List.drop_zero, Option.isSome_none, Option.isNone_none, Option.isSome_some, Option.isNone_some, sp9_0, sp9_2, T.Inst.enc_eq, *]
set_option maxHeartbeats 4000000 in
theorem law26_StopsMay_ok {i : T.Inst} {n : Int} {r : (Bool)} (h : law26_StopsMay i n = some r) :
    O.call 3 [AV.pv (PV.agg (T.Inst.enc i)), AV.pv (PV.int IntKind.i64 n)] [] = some (AV.pv (PV.bool r), []) := by
  unfold law26_StopsMay at h
  by_cases h1 : (decide ((i.stops.l.length : Int) > (14 : Int))) = true
  rw [if_pos h1] at h
  obtain ⟨v3, h2, h⟩ := Option.bind_eq_some_iff.1 h
  have f1 := aw7_ok h2
  try simp only [encx.down, Nat.zero_add, Nat.reduceAdd] at f1
  cases h
  rotate_left
  rw [if_neg h1] at h; replace h1 := Bool.eq_false_iff.2 h1
  obtain ⟨v5, h4, h⟩ := Option.bind_eq_some_iff.1 h
  have f2 := stops_May_ok h4
  try simp only [T.Inst.enc_eq, encx.down, Nat.zero_add, Nat.reduceAdd] at f2
  obtain ⟨v7, h6, h⟩ := Option.bind_eq_some_iff.1 h
  have f3 := ref26_May_ok h6
  try simp only [T.Inst.enc_eq, encx.down, Nat.zero_add, Nat.reduceAdd] at f3
  by_cases h8 : (v5 == v7) = true
  rw [if_pos h8] at h
  obtain ⟨v10, h9, h⟩ := Option.bind_eq_some_iff.1 h
  have f4 := aw7_ok h9
  try simp only [encx.down, Nat.zero_add, Nat.reduceAdd] at f4
  cases h
  rotate_left
  rw [if_neg h8] at h; replace h8 := Bool.eq_false_iff.2 h8
  cases h
  rotate_left
  all_goals
    refine omega_F rfl fn3 (by rfl) (by rfl) rfl ?_
    simp (disch := first | assumption | rfl | exact Sure.mk (by kernel_rfl)) only [coreG.down, tab.down, ↓reduceIte, Nat.reduceLeDiff, Nat.reduceEqDiff, Nat.reduceLT, Nat.reduceAdd, Nat.reduceSub, Nat.reduceMul, reduceCtorEq, Nat.reducePow, needs, aop, aBin, intBin, aLoad, List.toList_toArray, avOf, pvOf, allPV, List.take, List.drop, List.length_cons, List.length_nil, List.length_map, aStore, AV.stor, AV.cells, List.append, aFieldAddr, List.getElem?_cons_zero, List.getElem?_cons_succ, subHeap, AV.refs, AV.ren, AV.rows, if_true, if_false, List.nil_append, List.append_nil, List.cons_append, tupled, unz, aBuiltin, lenTd, aLen, ptrRows, List.getElem?_nil, touched, List.isEmpty_nil, Option.some.injEq, aUn, pure?, PV.cells, List.replicate, List.set_cons_zero, List.set_cons_succ, aConvert, strBin, sliceOf, eq_self, AV.thaw, Blk.thaw, aSlice, aNil, isNilV, aEq, plainEq, fitAll, keyFits, aMax, maxFrom, aPart, Blk.ren, Blk.refs, List.flatMap_nil, List.flatMap_cons, List.map_cons, List.map_nil, List.drop_zero, Option.isSome_none, Option.isNone_none, Option.isSome_some, Option.isNone_some, T.Inst.enc_eq, *]
end Go.Proofs.Ytdhgdeelagmbpaa
