/-
  What the machine's calls come to: the plain functions.
-/
import Derived.Test.YtdhgdeelagmbpaaSp
import Derived.Test.YtdhgdeelagmbpaaSh
import Derived.Test.YtdhgdeelagmbpaaAw
import Derived.Test.YtdhgdeelagmbpaaStPre
set_option linter.unusedSimpArgs false
set_option linter.unusedVariables false
set_option maxRecDepth 100000
namespace Go.Proofs.Ytdhgdeelagmbpaa
open Go Go.Gm
set_option maxHeartbeats 4000000 in
theorem span_May_ok {s : T.Span} {n : Int} {r : (Bool)} (h : span_May s n = some r) :
    O.call 26 [AV.pv (PV.agg (T.Span.enc s)), AV.pv (PV.int IntKind.i64 n)] [] = some (AV.pv (PV.bool r), []) := by
  unfold span_May at h
  by_cases g1 : ((decide (s.frm ≥ (0 : Int))) && (decide (s.frm ≤ s.to))) = true
  rw [if_pos g1] at h
  rcases (by intro u0 u1; cases u0 <;> cases u1 <;> simp [Dum] : ∀ u0 u1 : Bool, (u0 && u1) = true → (u0 = true ∧ u1 = true)) (decide (s.frm ≥ (0 : Int))) (decide (s.frm ≤ s.to)) g1 with ⟨h1, h2⟩
  clear g1
  cases h
  rotate_left
  focus
    rw [if_neg g1] at h; replace g1 := Bool.eq_false_iff.2 g1
    rcases (by intro u0 u1; cases u0 <;> cases u1 <;> simp [Dum] : ∀ u0 u1 : Bool, (u0 && u1) = false → (u0 = false ∧ Dum) ∨ (u0 = true ∧ u1 = false)) (decide (s.frm ≥ (0 : Int))) (decide (s.frm ≤ s.to)) g1 with ⟨h1, h2⟩ | ⟨h1, h2⟩
    clear g1
    all_goals
      cases h
      rotate_left
  rotate_left 2
  all_goals
    refine omega_F rfl fn26 (by rfl) (by rfl) rfl ?_
    simp (disch := first | assumption | rfl | exact Sure.mk (by kernel_rfl)) only [coreG.down, tab.down, ↓reduceIte, Nat.reduceLeDiff, Nat.reduceEqDiff, Nat.reduceLT, Nat.reduceAdd, Nat.reduceSub, Nat.reduceMul, reduceCtorEq, Nat.reducePow, needs, aop, aBin, intBin, aLoad, List.toList_toArray, avOf, pvOf, allPV, List.take, List.drop, List.length_cons, List.length_nil, List.length_map, aStore, AV.stor, AV.cells, List.append, aFieldAddr, List.getElem?_cons_zero, List.getElem?_cons_succ, subHeap, AV.refs, AV.ren, AV.rows, if_true, if_false, List.nil_append, List.append_nil, List.cons_append, tupled, unz, aBuiltin, lenTd, aLen, ptrRows, List.getElem?_nil, touched, List.isEmpty_nil, Option.some.injEq, aUn, pure?, PV.cells, List.replicate, List.set_cons_zero, List.set_cons_succ, aConvert, strBin, sliceOf, eq_self, AV.thaw, Blk.thaw, aSlice, aNil, isNilV, aEq, plainEq, fitAll, keyFits, aMax, maxFrom, aPart, Blk.ren, Blk.refs, List.flatMap_nil, List.flatMap_cons, List.map_cons, List.map_nil, List.drop_zero, Option.isSome_none, Option.isNone_none, Option.isSome_some, Option.isNone_some, T.Span.enc_eq, *]
set_option maxHeartbeats 4000000 in
theorem stops_up_ok {i : T.Inst} {k : Int} {r : (Int)} (h : stops_up i k = some r) :
    O.call 43 [AV.pv (PV.agg (T.Inst.enc i)), AV.pv (PV.int IntKind.i64 k)] [] = some (AV.pv (PV.int IntKind.i64 r), []) := by
  unfold stops_up at h
  obtain ⟨x2, h1, h⟩ := Option.bind_eq_some_iff.1 h
  have f1 := geti_nat h1 IntKind.i64
  have f2 := geti_map T.Stop.enc h1
  try simp only [T.Stop.enc_eq, encx.down, Nat.zero_add, Nat.reduceAdd] at f2
  have f3 := geti_szcT h1 18
  by_cases g4 : ((decide (x2.up ≥ (0 : Int))) && (decide (x2.up < k))) = true
  rw [if_pos g4] at h
  rcases (by intro u0 u1; cases u0 <;> cases u1 <;> simp [Dum] : ∀ u0 u1 : Bool, (u0 && u1) = true → (u0 = true ∧ u1 = true)) (decide (x2.up ≥ (0 : Int))) (decide (x2.up < k)) g4 with ⟨h3, h4⟩
  clear g4
  cases h
  rotate_left
  focus
    rw [if_neg g4] at h; replace g4 := Bool.eq_false_iff.2 g4
    rcases (by intro u0 u1; cases u0 <;> cases u1 <;> simp [Dum] : ∀ u0 u1 : Bool, (u0 && u1) = false → (u0 = false ∧ Dum) ∨ (u0 = true ∧ u1 = false)) (decide (x2.up ≥ (0 : Int))) (decide (x2.up < k)) g4 with ⟨h3, h4⟩ | ⟨h3, h4⟩
    clear g4
    all_goals
      cases h
      rotate_left
  rotate_left 2
  all_goals
    refine omega_F rfl fn43 (by rfl) (by rfl) rfl ?_
    simp (disch := first | assumption | rfl | exact Sure.mk (by kernel_rfl)) only [coreG.down, tab.down, ↓reduceIte, Nat.reduceLeDiff, Nat.reduceEqDiff, Nat.reduceLT, Nat.reduceAdd, Nat.reduceSub, Nat.reduceMul, reduceCtorEq, Nat.reducePow, needs, aop, aBin, intBin, aLoad, List.toList_toArray, avOf, pvOf, allPV, List.take, List.drop, List.length_cons, List.length_nil, List.length_map, aStore, AV.stor, AV.cells, List.append, aFieldAddr, List.getElem?_cons_zero, List.getElem?_cons_succ, subHeap, AV.refs, AV.ren, AV.rows, if_true, if_false, List.nil_append, List.append_nil, List.cons_append, tupled, unz, aBuiltin, lenTd, aLen, ptrRows, List.getElem?_nil, touched, List.isEmpty_nil, Option.some.injEq, aUn, pure?, PV.cells, List.replicate, List.set_cons_zero, List.set_cons_succ, aConvert, strBin, sliceOf, eq_self, AV.thaw, Blk.thaw, aSlice, aNil, isNilV, aEq, plainEq, fitAll, keyFits, aMax, maxFrom, aPart, Blk.ren, Blk.refs, List.flatMap_nil, List.flatMap_cons, List.map_cons, List.map_nil, List.drop_zero, Option.isSome_none, Option.isNone_none, Option.isSome_some, Option.isNone_some, T.Inst.enc_eq, *]
def stops_placed_L0_enc (k : Int) (i : T.Inst) : ((Bool) ⊕ (Unit)) → Ex × St
  | .inl y => (Ex.ret, ⟨[(1, AV.pv (PV.int IntKind.i64 k)), (2, AV.ptr 0 0), (4, AV.pv (PV.bool y))], [(0, Blk.box (List.map AV.pv (T.Inst.enc i)))], 1⟩)
  | .inr y => (Ex.normal, ⟨[(1, AV.pv (PV.int IntKind.i64 k)), (2, AV.ptr 0 0), (4, AV.undef)], [(0, Blk.box (List.map AV.pv (T.Inst.enc i)))], 1⟩)
set_option maxHeartbeats 4000000 in
theorem stops_placed_L0_ok {k : Int} {u : Int} {i : T.Inst} {r : ((Bool) ⊕ (Unit))} (h : stops_placed_L0 (k, u, i) = some r) :
    O.loop 27 0 ⟨[(1, AV.pv (PV.int IntKind.i64 k)), (2, AV.ptr 0 0), (5, AV.pv (PV.int IntKind.i64 u))], [(0, Blk.box (List.map AV.pv (T.Inst.enc i)))], 1⟩ = some (stops_placed_L0_enc k i r) := by
  refine stops_placed_L0.partial_correctness (fun p r => O.loop 27 0 ⟨[(1, AV.pv (PV.int IntKind.i64 p.1)), (2, AV.ptr 0 0), (5, AV.pv (PV.int IntKind.i64 p.2.1))], [(0, Blk.box (List.map AV.pv (T.Inst.enc p.2.2)))], 1⟩ = some (stops_placed_L0_enc p.1 p.2.2 r)) ?_ (k, u, i) r h
  clear h r k u i
  intro stops_placed_L0 ih6
  rintro ⟨k, u, i⟩ r h
  dsimp only at h ⊢
  by_cases h1 : (decide (u ≥ (0 : Int))) = true
  rw [if_pos h1] at h
  obtain ⟨x3, h2, h⟩ := Option.bind_eq_some_iff.1 h
  have f1 := geti_nat h2 IntKind.i64
  have f2 := geti_map T.Stop.enc h2
  try simp only [T.Stop.enc_eq, encx.down, Nat.zero_add, Nat.reduceAdd] at f2
  have f3 := geti_szcT h2 18
  by_cases h4 : (x3.up == u) = true
  rw [if_pos h4] at h
  cases h
  show _ = some (stops_placed_L0_enc _ _ (.inl _))
  dsimp only [stops_placed_L0_enc]
  clear ih6
  rotate_left
  rw [if_neg h4] at h; replace h4 := Bool.eq_false_iff.2 h4
  obtain ⟨v6, h5, h⟩ := Option.bind_eq_some_iff.1 h
  have f4 := stops_up_ok h5
  try simp only [T.Inst.enc_eq, encx.down, Nat.zero_add, Nat.reduceAdd] at f4
  have f5 := ih6 _ _ h
  try dsimp only at f5
  try simp only [T.Inst.enc_eq, encx.down, Nat.zero_add, Nat.reduceAdd] at f5
  clear h
  clear ih6
  rotate_left
  rw [if_neg h1] at h; replace h1 := Bool.eq_false_iff.2 h1
  cases h
  show _ = some (stops_placed_L0_enc _ _ (.inr _))
  dsimp only [stops_placed_L0_enc]
  clear ih6
  rotate_left
  all_goals
    refine omega_L fn27 (by rfl) ?_
    simp (disch := first | assumption | rfl | exact Sure.mk (by kernel_rfl)) only [coreG.down, tab.down, ↓reduceIte, Nat.reduceLeDiff, Nat.reduceEqDiff, Nat.reduceLT, Nat.reduceAdd, Nat.reduceSub, Nat.reduceMul, reduceCtorEq, Nat.reducePow, needs, aop, aBin, intBin, aLoad, List.toList_toArray, avOf, pvOf, allPV, List.take, List.drop, List.length_cons, List.length_nil, List.length_map, aStore, AV.stor, AV.cells, List.append, aFieldAddr, List.getElem?_cons_zero, List.getElem?_cons_succ, subHeap, AV.refs, AV.ren, AV.rows, if_true, if_false, List.nil_append, List.append_nil, List.cons_append, tupled, unz, aBuiltin, lenTd, aLen, ptrRows, List.getElem?_nil, touched, List.isEmpty_nil, Option.some.injEq, aUn, pure?, PV.cells, List.replicate, List.set_cons_zero, List.set_cons_succ, aConvert, strBin, sliceOf, eq_self, AV.thaw, Blk.thaw, aSlice, aNil, isNilV, aEq, plainEq, fitAll, keyFits, aMax, maxFrom, aPart, Blk.ren, Blk.refs, List.flatMap_nil, List.flatMap_cons, List.map_cons, List.map_nil, List.drop_zero, Option.isSome_none, Option.isNone_none, Option.isSome_some, Option.isNone_some, sp27_0, T.Inst.enc_eq, *]
set_option maxHeartbeats 4000000 in
theorem stops_placed_ok {i : T.Inst} {k : Int} {r : (Bool)} (h : stops_placed i k = some r) :
    O.call 27 [AV.pv (PV.agg (T.Inst.enc i)), AV.pv (PV.int IntKind.i64 k)] [] = some (AV.pv (PV.bool r), []) := by
  unfold stops_placed at h
  obtain ⟨v2, h1, h⟩ := Option.bind_eq_some_iff.1 h
  have f1 := stops_placed_L0_ok h1
  try simp only [T.Inst.enc_eq, encx.down, Nat.zero_add, Nat.reduceAdd] at f1
  rcases v2 with y3 | y4
  dsimp only at h
  simp only [stops_placed_L0_enc, T.Inst.enc_eq, encx.down, Nat.zero_add, Nat.reduceAdd] at f1
  cases h
  rotate_left
  dsimp only at h
  simp only [stops_placed_L0_enc, T.Inst.enc_eq, encx.down, Nat.zero_add, Nat.reduceAdd] at f1
  obtain ⟨x6, h5, h⟩ := Option.bind_eq_some_iff.1 h
  have f2 := geti_nat h5 IntKind.i64
  have f3 := geti_map T.Stop.enc h5
  try simp only [T.Stop.enc_eq, encx.down, Nat.zero_add, Nat.reduceAdd] at f3
  have f4 := geti_szcT h5 18
  cases h
  rotate_left
  all_goals
    refine omega_F rfl fn27 (by rfl) (by rfl) rfl ?_
    simp (disch := first | assumption | rfl | exact Sure.mk (by kernel_rfl)) only [coreG.down, tab.down, ↓reduceIte, Nat.reduceLeDiff, Nat.reduceEqDiff, Nat.reduceLT, Nat.reduceAdd, Nat.reduceSub, Nat.reduceMul, reduceCtorEq, Nat.reducePow, needs, aop, aBin, intBin, aLoad, List.toList_toArray, avOf, pvOf, allPV, List.take, List.drop, List.length_cons, List.length_nil, List.length_map, aStore, AV.stor, AV.cells, List.append, aFieldAddr, List.getElem?_cons_zero, List.getElem?_cons_succ, subHeap, AV.refs, AV.ren, AV.rows, if_true, if_false, List.nil_append, List.append_nil, List.cons_append, tupled, unz, aBuiltin, lenTd, aLen, ptrRows, List.getElem?_nil, touched, List.isEmpty_nil, Option.some.injEq, aUn, pure?, PV.cells, List.replicate, List.set_cons_zero, List.set_cons_succ, aConvert, strBin, sliceOf, eq_self, AV.thaw, Blk.thaw, aSlice, aNil, isNilV, aEq, plainEq, fitAll, keyFits, aMax, maxFrom, aPart, Blk.ren, Blk.refs, List.flatMap_nil, List.flatMap_cons, List.map_cons, List.map_nil, List.drop_zero, Option.isSome_none, Option.isNone_none, Option.isSome_some, Option.isNone_some, sp27_0, T.Inst.enc_eq, *]
set_option maxHeartbeats 4000000 in
theorem span_Within_ok {a : T.Span} {b : T.Span} {r : (Bool)} (h : span_Within a b = some r) :
    O.call 28 [AV.pv (PV.agg (T.Span.enc a)), AV.pv (PV.agg (T.Span.enc b))] [] = some (AV.pv (PV.bool r), []) := by
  unfold span_Within at h
  by_cases h1 : (decide (a.frm ≥ b.frm)) = true
  rw [if_pos h1] at h
  cases h
  rotate_left
  rw [if_neg h1] at h; replace h1 := Bool.eq_false_iff.2 h1
  cases h
  rotate_left
  all_goals
    refine omega_F rfl fn28 (by rfl) (by rfl) rfl ?_
    simp (disch := first | assumption | rfl | exact Sure.mk (by kernel_rfl)) only [coreG.down, tab.down, ↓reduceIte, Nat.reduceLeDiff, Nat.reduceEqDiff, Nat.reduceLT, Nat.reduceAdd, Nat.reduceSub, Nat.reduceMul, reduceCtorEq, Nat.reducePow, needs, aop, aBin, intBin, aLoad, List.toList_toArray, avOf, pvOf, allPV, List.take, List.drop, List.length_cons, List.length_nil, List.length_map, aStore, AV.stor, AV.cells, List.append, aFieldAddr, List.getElem?_cons_zero, List.getElem?_cons_succ, subHeap, AV.refs, AV.ren, AV.rows, if_true, if_false, List.nil_append, List.append_nil, List.cons_append, tupled, unz, aBuiltin, lenTd, aLen, ptrRows, List.getElem?_nil, touched, List.isEmpty_nil, Option.some.injEq, aUn, pure?, PV.cells, List.replicate, List.set_cons_zero, List.set_cons_succ, aConvert, strBin, sliceOf, eq_self, AV.thaw, Blk.thaw, aSlice, aNil, isNilV, aEq, plainEq, fitAll, keyFits, aMax, maxFrom, aPart, Blk.ren, Blk.refs, List.flatMap_nil, List.flatMap_cons, List.map_cons, List.map_nil, List.drop_zero, Option.isSome_none, Option.isNone_none, Option.isSome_some, Option.isNone_some, T.Span.enc_eq, *]
def stops_May_L0_enc (i : T.Inst) : ((Bool × MapII) ⊕ (MapII)) → Ex × St
  | .inl y => (Ex.ret, ⟨[(4, AV.pv (PV.bool y.1))], [(0, Blk.box (List.map AV.pv (T.Inst.enc i))), (1, Blk.map (List.map entE y.2.es) y.2.clock)], 2⟩)
  | .inr y => (Ex.normal, ⟨[(4, AV.undef)], [(0, Blk.box (List.map AV.pv (T.Inst.enc i))), (1, Blk.map (List.map entE y.es) y.clock)], 2⟩)
set_option maxHeartbeats 4000000 in
theorem stops_May_L0_ok {t18 : (Sl T.Stop)} {t19 : Int} {t20 : Int} {i : T.Inst} {ends : MapII} {r : ((Bool × MapII) ⊕ (MapII))} (h : stops_May_L0 (t18, t19, t20, i, ends) = some r) :
    O.loop 8 0 ⟨[(2, AV.ptr 0 0), (5, AV.map 1), (18, AV.pv (PV.sl t18.nil (szc 18 t18.l) (List.map T.Stop.enc t18.l))), (19, AV.pv (PV.int IntKind.i64 t19)), (20, AV.pv (PV.int IntKind.i64 t20))], [(0, Blk.box (List.map AV.pv (T.Inst.enc i))), (1, Blk.map (List.map entE ends.es) ends.clock)], 2⟩ = some (stops_May_L0_enc i r) := by
  refine stops_May_L0.partial_correctness (fun p r => O.loop 8 0 ⟨[(2, AV.ptr 0 0), (5, AV.map 1), (18, AV.pv (PV.sl p.1.nil (szc 18 p.1.l) (List.map T.Stop.enc p.1.l))), (19, AV.pv (PV.int IntKind.i64 p.2.1)), (20, AV.pv (PV.int IntKind.i64 p.2.2.1))], [(0, Blk.box (List.map AV.pv (T.Inst.enc p.2.2.2.1))), (1, Blk.map (List.map entE p.2.2.2.2.es) p.2.2.2.2.clock)], 2⟩ = some (stops_May_L0_enc p.2.2.2.1 r)) ?_ (t18, t19, t20, i, ends) r h
  clear h r t18 t19 t20 i ends
  intro stops_May_L0 ih4
  rintro ⟨t18, t19, t20, i, ends⟩ r h
  dsimp only at h ⊢
  by_cases h1 : (decide (t20 < t19)) = true
  rw [if_pos h1] at h
  obtain ⟨x3, h2, h⟩ := Option.bind_eq_some_iff.1 h
  have f1 := geti_nat h2 IntKind.i64
  have f2 := geti_map T.Stop.enc h2
  try simp only [T.Stop.enc_eq, encx.down, Nat.zero_add, Nat.reduceAdd] at f2
  have f3 := geti_szcT h2 18
  obtain ⟨v5, h4, h⟩ := Option.bind_eq_some_iff.1 h
  have f4 := stops_placed_ok h4
  try simp only [T.Inst.enc_eq, encx.down, Nat.zero_add, Nat.reduceAdd] at f4
  by_cases g5 : ((!v5) || (decide (x3.span.frm > x3.span.to))) = true
  focus
    rw [if_pos g5] at h
    rcases (by intro u0 u1; cases u0 <;> cases u1 <;> simp [Dum] : ∀ u0 u1 : Bool, (u0 || u1) = true → (u0 = true ∧ Dum) ∨ (u0 = false ∧ u1 = true)) (!v5) (decide (x3.span.frm > x3.span.to)) g5 with ⟨h6, h7⟩ | ⟨h6, h7⟩
    clear g5
    all_goals
      cases h
      show _ = some (stops_May_L0_enc _ (.inl _))
      dsimp only [stops_May_L0_enc]
      clear ih4
      rotate_left
  rotate_left 2
  rw [if_neg g5] at h; replace g5 := Bool.eq_false_iff.2 g5
  rcases (by intro u0 u1; cases u0 <;> cases u1 <;> simp [Dum] : ∀ u0 u1 : Bool, (u0 || u1) = false → (u0 = false ∧ u1 = false)) (!v5) (decide (x3.span.frm > x3.span.to)) g5 with ⟨h6, h7⟩
  clear g5
  by_cases h8 : (decide (x3.up ≥ (0 : Int))) = true
  rw [if_pos h8] at h
  obtain ⟨x10, h9, h⟩ := Option.bind_eq_some_iff.1 h
  have f6 := geti_nat h9 IntKind.i64
  have f7 := geti_map T.Stop.enc h9
  try simp only [T.Stop.enc_eq, encx.down, Nat.zero_add, Nat.reduceAdd] at f7
  have f8 := geti_szcT h9 18
  have f9 := fun b => mii_get2 b ends x3.up
  try simp only [encx.down, Nat.zero_add, Nat.reduceAdd] at f9
  obtain ⟨v12, h11, h⟩ := Option.bind_eq_some_iff.1 h
  have f10 := span_Within_ok h11
  try simp only [T.Span.enc_eq, encx.down, Nat.zero_add, Nat.reduceAdd] at f10
  by_cases g11 : ((!v12) || ((mhas ends x3.up) && (decide (x3.span.frm < (mget ends x3.up))))) = true
  focus
    rw [if_pos g11] at h
    rcases (by intro u0 u1 u2; cases u0 <;> cases u1 <;> cases u2 <;> simp [Dum] : ∀ u0 u1 u2 : Bool, (u0 || (u1 && u2)) = true → (u0 = true ∧ Dum ∧ Dum) ∨ (u0 = false ∧ u1 = true ∧ u2 = true)) (!v12) (mhas ends x3.up) (decide (x3.span.frm < (mget ends x3.up))) g11 with ⟨h13, h14, h15⟩ | ⟨h13, h14, h15⟩
    clear g11
    all_goals
      cases h
      show _ = some (stops_May_L0_enc _ (.inl _))
      dsimp only [stops_May_L0_enc]
      clear ih4
      rotate_left
  rotate_left 2
  focus
    rw [if_neg g11] at h; replace g11 := Bool.eq_false_iff.2 g11
    rcases (by intro u0 u1 u2; cases u0 <;> cases u1 <;> cases u2 <;> simp [Dum] : ∀ u0 u1 u2 : Bool, (u0 || (u1 && u2)) = false → (u0 = false ∧ u1 = false ∧ Dum) ∨ (u0 = false ∧ u1 = true ∧ u2 = false)) (!v12) (mhas ends x3.up) (decide (x3.span.frm < (mget ends x3.up))) g11 with ⟨h13, h14, h15⟩ | ⟨h13, h14, h15⟩
    clear g11
    all_goals
      have f12 := mii_put 1 ends x3.up x3.span.to
      try simp only [encx.down, Nat.zero_add, Nat.reduceAdd] at f12
      have f13 := ih4 _ _ h
      try dsimp only at f13
      try simp only [T.Inst.enc_eq, T.Stop.enc_eq, encx.down, Nat.zero_add, Nat.reduceAdd] at f13
      clear h
      clear ih4
      rotate_left
  rotate_left 2
  rw [if_neg h8] at h; replace h8 := Bool.eq_false_iff.2 h8
  have f14 := fun b => mii_get2 b ends x3.up
  try simp only [encx.down, Nat.zero_add, Nat.reduceAdd] at f14
  obtain ⟨v17, h16, h⟩ := Option.bind_eq_some_iff.1 h
  have f15 := span_Within_ok h16
  try simp only [T.Span.enc_eq, encx.down, Nat.zero_add, Nat.reduceAdd] at f15
  by_cases g16 : ((!v17) || ((mhas ends x3.up) && (decide (x3.span.frm < (mget ends x3.up))))) = true
  focus
    rw [if_pos g16] at h
    rcases (by intro u0 u1 u2; cases u0 <;> cases u1 <;> cases u2 <;> simp [Dum] : ∀ u0 u1 u2 : Bool, (u0 || (u1 && u2)) = true → (u0 = true ∧ Dum ∧ Dum) ∨ (u0 = false ∧ u1 = true ∧ u2 = true)) (!v17) (mhas ends x3.up) (decide (x3.span.frm < (mget ends x3.up))) g16 with ⟨h18, h19, h20⟩ | ⟨h18, h19, h20⟩
    clear g16
    all_goals
      cases h
      show _ = some (stops_May_L0_enc _ (.inl _))
      dsimp only [stops_May_L0_enc]
      clear ih4
      rotate_left
  rotate_left 2
  focus
    rw [if_neg g16] at h; replace g16 := Bool.eq_false_iff.2 g16
    rcases (by intro u0 u1 u2; cases u0 <;> cases u1 <;> cases u2 <;> simp [Dum] : ∀ u0 u1 u2 : Bool, (u0 || (u1 && u2)) = false → (u0 = false ∧ u1 = false ∧ Dum) ∨ (u0 = false ∧ u1 = true ∧ u2 = false)) (!v17) (mhas ends x3.up) (decide (x3.span.frm < (mget ends x3.up))) g16 with ⟨h18, h19, h20⟩ | ⟨h18, h19, h20⟩
    clear g16
    all_goals
      have f17 := mii_put 1 ends x3.up x3.span.to
      try simp only [encx.down, Nat.zero_add, Nat.reduceAdd] at f17
      have f18 := ih4 _ _ h
      try dsimp only at f18
      try simp only [T.Inst.enc_eq, T.Stop.enc_eq, encx.down, Nat.zero_add, Nat.reduceAdd] at f18
      clear h
      clear ih4
      rotate_left
  rotate_left 2
  rw [if_neg h1] at h; replace h1 := Bool.eq_false_iff.2 h1
  cases h
  show _ = some (stops_May_L0_enc _ (.inr _))
  dsimp only [stops_May_L0_enc]
  clear ih4
  rotate_left
  all_goals
    refine omega_L fn8 (by rfl) ?_
    simp (disch := first | assumption | rfl | exact Sure.mk (by kernel_rfl)) only [coreG.down, tab.down, ↓reduceIte, Nat.reduceLeDiff, Nat.reduceEqDiff, Nat.reduceLT, Nat.reduceAdd, Nat.reduceSub, Nat.reduceMul, reduceCtorEq, Nat.reducePow, needs, aop, aBin, intBin, aLoad, List.toList_toArray, avOf, pvOf, allPV, List.take, List.drop, List.length_cons, List.length_nil, List.length_map, aStore, AV.stor, AV.cells, List.append, aFieldAddr, List.getElem?_cons_zero, List.getElem?_cons_succ, subHeap, AV.refs, AV.ren, AV.rows, if_true, if_false, List.nil_append, List.append_nil, List.cons_append, tupled, unz, aBuiltin, lenTd, aLen, ptrRows, List.getElem?_nil, touched, List.isEmpty_nil, Option.some.injEq, aUn, pure?, PV.cells, List.replicate, List.set_cons_zero, List.set_cons_succ, aConvert, strBin, sliceOf, eq_self, AV.thaw, Blk.thaw, aSlice, aNil, isNilV, aEq, plainEq, fitAll, keyFits, aMax, maxFrom, aPart, Blk.ren, Blk.refs, List.flatMap_nil, List.flatMap_cons, List.map_cons, List.map_nil, List.drop_zero, Option.isSome_none, Option.isNone_none, Option.isSome_some, Option.isNone_some, sp8_0, T.Inst.enc_eq, T.Stop.enc_eq, *]
set_option maxHeartbeats 4000000 in
theorem stops_May_ok {i : T.Inst} {n : Int} {r : (Bool)} (h : stops_May i n = some r) :
    O.call 8 [AV.pv (PV.agg (T.Inst.enc i)), AV.pv (PV.int IntKind.i64 n)] [] = some (AV.pv (PV.bool r), []) := by
  unfold stops_May at h
  obtain ⟨v2, h1, h⟩ := Option.bind_eq_some_iff.1 h
  have f1 := span_May_ok h1
  try simp only [T.Span.enc_eq, encx.down, Nat.zero_add, Nat.reduceAdd] at f1
  by_cases h3 : (!v2) = true
  rw [if_pos h3] at h
  cases h
  rotate_left
  rw [if_neg h3] at h; replace h3 := Bool.eq_false_iff.2 h3
  obtain ⟨v5, h4, h⟩ := Option.bind_eq_some_iff.1 h
  have f2 := stops_May_L0_ok h4
  try simp only [T.Inst.enc_eq, T.Stop.enc_eq, encx.down, Nat.zero_add, Nat.reduceAdd] at f2
  rcases v5 with y6 | y7
  dsimp only at h
  simp only [stops_May_L0_enc, T.Inst.enc_eq, T.Stop.enc_eq, encx.down, Nat.zero_add, Nat.reduceAdd] at f2
  cases h
  rotate_left
  dsimp only at h
  simp only [stops_May_L0_enc, T.Inst.enc_eq, T.Stop.enc_eq, encx.down, Nat.zero_add, Nat.reduceAdd] at f2
  cases h
  rotate_left
  all_goals
    refine omega_F rfl fn8 (by rfl) (by rfl) rfl ?_
    simp (disch := first | assumption | rfl | exact Sure.mk (by kernel_rfl)) only [coreG.down, tab.down, ↓reduceIte, Nat.reduceLeDiff, Nat.reduceEqDiff, Nat.reduceLT, Nat.reduceAdd, Nat.reduceSub, Nat.reduceMul, reduceCtorEq, Nat.reducePow, needs, aop, aBin, intBin, aLoad, List.toList_toArray, avOf, pvOf, allPV, List.take, List.drop, List.length_cons, List.length_nil, List.length_map, aStore, AV.stor, AV.cells, List.append, aFieldAddr, List.getElem?_cons_zero, List.getElem?_cons_succ, subHeap, AV.refs, AV.ren, AV.rows, if_true, if_false, List.nil_append, List.append_nil, List.cons_append, tupled, unz, aBuiltin, lenTd, aLen, ptrRows, List.getElem?_nil, touched, List.isEmpty_nil, Option.some.injEq, aUn, pure?, PV.cells, List.replicate, List.set_cons_zero, List.set_cons_succ, aConvert, strBin, sliceOf, eq_self, AV.thaw, Blk.thaw, aSlice, aNil, isNilV, aEq, plainEq, fitAll, keyFits, aMax, maxFrom, aPart, Blk.ren, Blk.refs, List.flatMap_nil, List.flatMap_cons, List.map_cons, List.map_nil, List.drop_zero, Option.isSome_none, Option.isNone_none, Option.isSome_some, Option.isNone_some, sp8_0, T.Inst.enc_eq, *]
set_option maxHeartbeats 4000000 in
theorem ref5_May_ok {s : T.Span} {n : Int} {r : (Bool)} (h : ref5_May s n = some r) :
    O.call 29 [AV.pv (PV.agg (T.Span.enc s)), AV.pv (PV.int IntKind.i64 n)] [] = some (AV.pv (PV.bool r), []) := by
  unfold ref5_May at h
  by_cases g1 : ((decide (s.frm ≥ (0 : Int))) && (decide (s.frm ≤ s.to))) = true
  rw [if_pos g1] at h
  rcases (by intro u0 u1; cases u0 <;> cases u1 <;> simp [Dum] : ∀ u0 u1 : Bool, (u0 && u1) = true → (u0 = true ∧ u1 = true)) (decide (s.frm ≥ (0 : Int))) (decide (s.frm ≤ s.to)) g1 with ⟨h1, h2⟩
  clear g1
  cases h
  rotate_left
  focus
    rw [if_neg g1] at h; replace g1 := Bool.eq_false_iff.2 g1
    rcases (by intro u0 u1; cases u0 <;> cases u1 <;> simp [Dum] : ∀ u0 u1 : Bool, (u0 && u1) = false → (u0 = false ∧ Dum) ∨ (u0 = true ∧ u1 = false)) (decide (s.frm ≥ (0 : Int))) (decide (s.frm ≤ s.to)) g1 with ⟨h1, h2⟩ | ⟨h1, h2⟩
    clear g1
    all_goals
      cases h
      rotate_left
  rotate_left 2
  all_goals
    refine omega_F rfl fn29 (by rfl) (by rfl) rfl ?_
    simp (disch := first | assumption | rfl | exact Sure.mk (by kernel_rfl)) only [coreG.down, tab.down, ↓reduceIte, Nat.reduceLeDiff, Nat.reduceEqDiff, Nat.reduceLT, Nat.reduceAdd, Nat.reduceSub, Nat.reduceMul, reduceCtorEq, Nat.reducePow, needs, aop, aBin, intBin, aLoad, List.toList_toArray, avOf, pvOf, allPV, List.take, List.drop, List.length_cons, List.length_nil, List.length_map, aStore, AV.stor, AV.cells, List.append, aFieldAddr, List.getElem?_cons_zero, List.getElem?_cons_succ, subHeap, AV.refs, AV.ren, AV.rows, if_true, if_false, List.nil_append, List.append_nil, List.cons_append, tupled, unz, aBuiltin, lenTd, aLen, ptrRows, List.getElem?_nil, touched, List.isEmpty_nil, Option.some.injEq, aUn, pure?, PV.cells, List.replicate, List.set_cons_zero, List.set_cons_succ, aConvert, strBin, sliceOf, eq_self, AV.thaw, Blk.thaw, aSlice, aNil, isNilV, aEq, plainEq, fitAll, keyFits, aMax, maxFrom, aPart, Blk.ren, Blk.refs, List.flatMap_nil, List.flatMap_cons, List.map_cons, List.map_nil, List.drop_zero, Option.isSome_none, Option.isNone_none, Option.isSome_some, Option.isNone_some, T.Span.enc_eq, *]
def ref26_In_L0_enc : ((Bool) ⊕ (Unit)) → Ex × St
  | .inl y => (Ex.ret, ⟨[(6, AV.pv (PV.bool y))], [], 0⟩)
  | .inr y => (Ex.normal, ⟨[(6, AV.undef)], [], 0⟩)
set_option maxHeartbeats 4000000 in
theorem ref26_In_L0_ok {l : (Sl T.Stop)} {a : Int} {b : Int} {r : ((Bool) ⊕ (Unit))} (h : ref26_In_L0 (l, a, b) = some r) :
    O.loop 30 0 ⟨[(0, AV.pv (PV.sl l.nil (szc 18 l.l) (List.map T.Stop.enc l.l))), (1, AV.pv (PV.int IntKind.i64 a)), (2, AV.pv (PV.int IntKind.i64 b))], [], 0⟩ = some (ref26_In_L0_enc r) := by
  refine ref26_In_L0.partial_correctness (fun p r => O.loop 30 0 ⟨[(0, AV.pv (PV.sl p.1.nil (szc 18 p.1.l) (List.map T.Stop.enc p.1.l))), (1, AV.pv (PV.int IntKind.i64 p.2.1)), (2, AV.pv (PV.int IntKind.i64 p.2.2))], [], 0⟩ = some (ref26_In_L0_enc r)) ?_ (l, a, b) r h
  clear h r l a b
  intro ref26_In_L0 ih13
  rintro ⟨l, a, b⟩ r h
  dsimp only at h ⊢
  by_cases g1 : ((decide (a ≥ (0 : Int))) && (decide (a < (l.l.length : Int)))) = true
  rw [if_pos g1] at h
  rcases (by intro u0 u1; cases u0 <;> cases u1 <;> simp [Dum] : ∀ u0 u1 : Bool, (u0 && u1) = true → (u0 = true ∧ u1 = true)) (decide (a ≥ (0 : Int))) (decide (a < (l.l.length : Int))) g1 with ⟨h1, h2⟩
  clear g1
  obtain ⟨x4, h3, h⟩ := Option.bind_eq_some_iff.1 h
  have f2 := geti_nat h3 IntKind.i64
  have f3 := geti_map T.Stop.enc h3
  try simp only [T.Stop.enc_eq, encx.down, Nat.zero_add, Nat.reduceAdd] at f3
  have f4 := geti_szcT h3 18
  by_cases h5 : (decide (x4.up ≥ (0 : Int))) = true
  rw [if_pos h5] at h
  by_cases h6 : (decide (x4.up < a)) = true
  rw [if_pos h6] at h
  by_cases h7 : (x4.up == b) = true
  rw [if_pos h7] at h
  cases h
  show _ = some (ref26_In_L0_enc (.inl _))
  dsimp only [ref26_In_L0_enc]
  clear ih13
  rotate_left
  rw [if_neg h7] at h; replace h7 := Bool.eq_false_iff.2 h7
  have f5 := ih13 _ _ h
  try dsimp only at f5
  try simp only [T.Stop.enc_eq, encx.down, Nat.zero_add, Nat.reduceAdd] at f5
  clear h
  clear ih13
  rotate_left
  rw [if_neg h6] at h; replace h6 := Bool.eq_false_iff.2 h6
  cases h
  show _ = some (ref26_In_L0_enc (.inr _))
  dsimp only [ref26_In_L0_enc]
  clear ih13
  rotate_left
  rw [if_neg h5] at h; replace h5 := Bool.eq_false_iff.2 h5
  cases h
  show _ = some (ref26_In_L0_enc (.inr _))
  dsimp only [ref26_In_L0_enc]
  clear ih13
  rotate_left
  focus
    rw [if_neg g1] at h; replace g1 := Bool.eq_false_iff.2 g1
    rcases (by intro u0 u1; cases u0 <;> cases u1 <;> simp [Dum] : ∀ u0 u1 : Bool, (u0 && u1) = false → (u0 = false ∧ Dum) ∨ (u0 = true ∧ u1 = false)) (decide (a ≥ (0 : Int))) (decide (a < (l.l.length : Int))) g1 with ⟨h1, h2⟩ | ⟨h1, h2⟩
    clear g1
    all_goals
      cases h
      show _ = some (ref26_In_L0_enc (.inr _))
      dsimp only [ref26_In_L0_enc]
      clear ih13
      rotate_left
  rotate_left 2
  all_goals
    refine omega_L fn30 (by rfl) ?_
    simp (disch := first | assumption | rfl | exact Sure.mk (by kernel_rfl)) only [coreG.down, tab.down, ↓reduceIte, Nat.reduceLeDiff, Nat.reduceEqDiff, Nat.reduceLT, Nat.reduceAdd, Nat.reduceSub, Nat.reduceMul, reduceCtorEq, Nat.reducePow, needs, aop, aBin, intBin, aLoad, List.toList_toArray, avOf, pvOf, allPV, List.take, List.drop, List.length_cons, List.length_nil, List.length_map, aStore, AV.stor, AV.cells, List.append, aFieldAddr, List.getElem?_cons_zero, List.getElem?_cons_succ, subHeap, AV.refs, AV.ren, AV.rows, if_true, if_false, List.nil_append, List.append_nil, List.cons_append, tupled, unz, aBuiltin, lenTd, aLen, ptrRows, List.getElem?_nil, touched, List.isEmpty_nil, Option.some.injEq, aUn, pure?, PV.cells, List.replicate, List.set_cons_zero, List.set_cons_succ, aConvert, strBin, sliceOf, eq_self, AV.thaw, Blk.thaw, aSlice, aNil, isNilV, aEq, plainEq, fitAll, keyFits, aMax, maxFrom, aPart, Blk.ren, Blk.refs, List.flatMap_nil, List.flatMap_cons, List.map_cons, List.map_nil, List.drop_zero, Option.isSome_none, Option.isNone_none, Option.isSome_some, Option.isNone_some, sp30_0, T.Stop.enc_eq, *]
set_option maxHeartbeats 4000000 in
theorem ref26_In_ok {l : (Sl T.Stop)} {a : Int} {b : Int} {r : (Bool)} (h : ref26_In l a b = some r) :
    O.call 30 [AV.pv (PV.sl l.nil (szc 18 l.l) (List.map T.Stop.enc l.l)), AV.pv (PV.int IntKind.i64 a), AV.pv (PV.int IntKind.i64 b)] [] = some (AV.pv (PV.bool r), []) := by
  unfold ref26_In at h
  obtain ⟨v2, h1, h⟩ := Option.bind_eq_some_iff.1 h
  have f1 := ref26_In_L0_ok h1
  try simp only [T.Stop.enc_eq, encx.down, Nat.zero_add, Nat.reduceAdd] at f1
  rcases v2 with y3 | y4
  dsimp only at h
  simp only [ref26_In_L0_enc, T.Stop.enc_eq, encx.down, Nat.zero_add, Nat.reduceAdd] at f1
  cases h
  rotate_left
  dsimp only at h
  simp only [ref26_In_L0_enc, T.Stop.enc_eq, encx.down, Nat.zero_add, Nat.reduceAdd] at f1
  cases h
  rotate_left
  all_goals
    refine omega_F rfl fn30 (by rfl) (by rfl) rfl ?_
    simp (disch := first | assumption | rfl | exact Sure.mk (by kernel_rfl)) only [coreG.down, tab.down, ↓reduceIte, Nat.reduceLeDiff, Nat.reduceEqDiff, Nat.reduceLT, Nat.reduceAdd, Nat.reduceSub, Nat.reduceMul, reduceCtorEq, Nat.reducePow, needs, aop, aBin, intBin, aLoad, List.toList_toArray, avOf, pvOf, allPV, List.take, List.drop, List.length_cons, List.length_nil, List.length_map, aStore, AV.stor, AV.cells, List.append, aFieldAddr, List.getElem?_cons_zero, List.getElem?_cons_succ, subHeap, AV.refs, AV.ren, AV.rows, if_true, if_false, List.nil_append, List.append_nil, List.cons_append, tupled, unz, aBuiltin, lenTd, aLen, ptrRows, List.getElem?_nil, touched, List.isEmpty_nil, Option.some.injEq, aUn, pure?, PV.cells, List.replicate, List.set_cons_zero, List.set_cons_succ, aConvert, strBin, sliceOf, eq_self, AV.thaw, Blk.thaw, aSlice, aNil, isNilV, aEq, plainEq, fitAll, keyFits, aMax, maxFrom, aPart, Blk.ren, Blk.refs, List.flatMap_nil, List.flatMap_cons, List.map_cons, List.map_nil, List.drop_zero, Option.isSome_none, Option.isNone_none, Option.isSome_some, Option.isNone_some, sp30_0, T.Stop.enc_eq, *]
set_option maxHeartbeats 4000000 in
theorem ref5_Within_ok {a : T.Span} {b : T.Span} {r : (Bool)} (h : ref5_Within a b = some r) :
    O.call 31 [AV.pv (PV.agg (T.Span.enc a)), AV.pv (PV.agg (T.Span.enc b))] [] = some (AV.pv (PV.bool r), []) := by
  unfold ref5_Within at h
  by_cases h1 : (decide (a.frm ≥ b.frm)) = true
  rw [if_pos h1] at h
  cases h
  rotate_left
  rw [if_neg h1] at h; replace h1 := Bool.eq_false_iff.2 h1
  cases h
  rotate_left
  all_goals
    refine omega_F rfl fn31 (by rfl) (by rfl) rfl ?_
    simp (disch := first | assumption | rfl | exact Sure.mk (by kernel_rfl)) only [coreG.down, tab.down, ↓reduceIte, Nat.reduceLeDiff, Nat.reduceEqDiff, Nat.reduceLT, Nat.reduceAdd, Nat.reduceSub, Nat.reduceMul, reduceCtorEq, Nat.reducePow, needs, aop, aBin, intBin, aLoad, List.toList_toArray, avOf, pvOf, allPV, List.take, List.drop, List.length_cons, List.length_nil, List.length_map, aStore, AV.stor, AV.cells, List.append, aFieldAddr, List.getElem?_cons_zero, List.getElem?_cons_succ, subHeap, AV.refs, AV.ren, AV.rows, if_true, if_false, List.nil_append, List.append_nil, List.cons_append, tupled, unz, aBuiltin, lenTd, aLen, ptrRows, List.getElem?_nil, touched, List.isEmpty_nil, Option.some.injEq, aUn, pure?, PV.cells, List.replicate, List.set_cons_zero, List.set_cons_succ, aConvert, strBin, sliceOf, eq_self, AV.thaw, Blk.thaw, aSlice, aNil, isNilV, aEq, plainEq, fitAll, keyFits, aMax, maxFrom, aPart, Blk.ren, Blk.refs, List.flatMap_nil, List.flatMap_cons, List.map_cons, List.map_nil, List.drop_zero, Option.isSome_none, Option.isNone_none, Option.isSome_some, Option.isNone_some, T.Span.enc_eq, *]
def ref26_May_L2_enc (k : Int) (i : T.Inst) (x : T.Stop) (b2_ : T.Span) : ((Bool) ⊕ (Unit)) → Ex × St
  | .inl y => (Ex.ret, ⟨[(2, AV.ptr 0 0), (4, AV.pv (PV.bool y)), (5, AV.pv (PV.int IntKind.i64 k))], [(0, Blk.box (List.map AV.pv (T.Inst.enc i))), (1, Blk.box (List.map AV.pv (T.Stop.enc x))), (2, Blk.box (List.map AV.pv (T.Span.enc b2_)))], 3⟩)
  | .inr y => (Ex.normal, ⟨[(2, AV.ptr 0 0), (4, AV.undef), (5, AV.pv (PV.int IntKind.i64 k))], [(0, Blk.box (List.map AV.pv (T.Inst.enc i))), (1, Blk.box (List.map AV.pv (T.Stop.enc x))), (2, Blk.box (List.map AV.pv (T.Span.enc b2_)))], 3⟩)
set_option maxHeartbeats 4000000 in
theorem ref26_May_L2_ok {k : Int} {j : Int} {i : T.Inst} {x : T.Stop} {b2_ : T.Span} {r : ((Bool) ⊕ (Unit))} (h : ref26_May_L2 (k, j, i, x, b2_) = some r) :
    O.loop 9 2 ⟨[(2, AV.ptr 0 0), (5, AV.pv (PV.int IntKind.i64 k)), (6, AV.ptr 1 0), (8, AV.pv (PV.int IntKind.i64 j))], [(0, Blk.box (List.map AV.pv (T.Inst.enc i))), (1, Blk.box (List.map AV.pv (T.Stop.enc x))), (2, Blk.box (List.map AV.pv (T.Span.enc b2_)))], 3⟩ = some (ref26_May_L2_enc k i x b2_ r) := by
  refine ref26_May_L2.partial_correctness (fun p r => O.loop 9 2 ⟨[(2, AV.ptr 0 0), (5, AV.pv (PV.int IntKind.i64 p.1)), (6, AV.ptr 1 0), (8, AV.pv (PV.int IntKind.i64 p.2.1))], [(0, Blk.box (List.map AV.pv (T.Inst.enc p.2.2.1))), (1, Blk.box (List.map AV.pv (T.Stop.enc p.2.2.2.1))), (2, Blk.box (List.map AV.pv (T.Span.enc p.2.2.2.2)))], 3⟩ = some (ref26_May_L2_enc p.1 p.2.2.1 p.2.2.2.1 p.2.2.2.2 r)) ?_ (k, j, i, x, b2_) r h
  clear h r k j i x b2_
  intro ref26_May_L2 ih15
  rintro ⟨k, j, i, x, b2_⟩ r h
  dsimp only at h ⊢
  by_cases h1 : (decide (j < k)) = true
  rw [if_pos h1] at h
  obtain ⟨x3, h2, h⟩ := Option.bind_eq_some_iff.1 h
  have f1 := geti_nat h2 IntKind.i64
  have f2 := geti_map T.Stop.enc h2
  try simp only [T.Stop.enc_eq, encx.down, Nat.zero_add, Nat.reduceAdd] at f2
  have f3 := geti_szcT h2 18
  by_cases h4 : (x3.up == x.up) = true
  rw [if_pos h4] at h
  by_cases h5 : (decide (x.span.frm < x3.span.to)) = true
  rw [if_pos h5] at h
  cases h
  show _ = some (ref26_May_L2_enc _ _ _ _ (.inl _))
  dsimp only [ref26_May_L2_enc]
  clear ih15
  rotate_left
  rw [if_neg h5] at h; replace h5 := Bool.eq_false_iff.2 h5
  have f4 := ih15 _ _ h
  try dsimp only at f4
  try simp only [T.Inst.enc_eq, T.Span.enc_eq, T.Stop.enc_eq, encx.down, Nat.zero_add, Nat.reduceAdd] at f4
  clear h
  clear ih15
  rotate_left
  rw [if_neg h4] at h; replace h4 := Bool.eq_false_iff.2 h4
  have f5 := ih15 _ _ h
  try dsimp only at f5
  try simp only [T.Inst.enc_eq, T.Span.enc_eq, T.Stop.enc_eq, encx.down, Nat.zero_add, Nat.reduceAdd] at f5
  clear h
  clear ih15
  rotate_left
  rw [if_neg h1] at h; replace h1 := Bool.eq_false_iff.2 h1
  cases h
  show _ = some (ref26_May_L2_enc _ _ _ _ (.inr _))
  dsimp only [ref26_May_L2_enc]
  clear ih15
  rotate_left
  all_goals
    refine omega_L fn9 (by rfl) ?_
    simp (disch := first | assumption | rfl | exact Sure.mk (by kernel_rfl)) only [coreG.down, tab.down, ↓reduceIte, Nat.reduceLeDiff, Nat.reduceEqDiff, Nat.reduceLT, Nat.reduceAdd, Nat.reduceSub, Nat.reduceMul, reduceCtorEq, Nat.reducePow, needs, aop, aBin, intBin, aLoad, List.toList_toArray, avOf, pvOf, allPV, List.take, List.drop, List.length_cons, List.length_nil, List.length_map, aStore, AV.stor, AV.cells, List.append, aFieldAddr, List.getElem?_cons_zero, List.getElem?_cons_succ, subHeap, AV.refs, AV.ren, AV.rows, if_true, if_false, List.nil_append, List.append_nil, List.cons_append, tupled, unz, aBuiltin, lenTd, aLen, ptrRows, List.getElem?_nil, touched, List.isEmpty_nil, Option.some.injEq, aUn, pure?, PV.cells, List.replicate, List.set_cons_zero, List.set_cons_succ, aConvert, strBin, sliceOf, eq_self, AV.thaw, Blk.thaw, aSlice, aNil, isNilV, aEq, plainEq, fitAll, keyFits, aMax, maxFrom, aPart, Blk.ren, Blk.refs, List.flatMap_nil, List.flatMap_cons, List.map_cons, List.map_nil, List.drop_zero, Option.isSome_none, Option.isNone_none, Option.isSome_some, Option.isNone_some, sp9_0, sp9_2, T.Inst.enc_eq, T.Span.enc_eq, T.Stop.enc_eq, *]
def ref26_May_L0_enc (i : T.Inst) : ((Bool) ⊕ (Unit)) → Ex × St
  | .inl y => (Ex.ret, ⟨[(4, AV.pv (PV.bool y))], [(0, Blk.box (List.map AV.pv (T.Inst.enc i)))], 1⟩)
  | .inr y => (Ex.normal, ⟨[(4, AV.undef)], [(0, Blk.box (List.map AV.pv (T.Inst.enc i)))], 1⟩)
set_option maxHeartbeats 4000000 in
theorem ref26_May_L0_ok {k : Int} {i : T.Inst} {r : ((Bool) ⊕ (Unit))} (h : ref26_May_L0 (k, i) = some r) :
    O.loop 9 0 ⟨[(2, AV.ptr 0 0), (5, AV.pv (PV.int IntKind.i64 k))], [(0, Blk.box (List.map AV.pv (T.Inst.enc i)))], 1⟩ = some (ref26_May_L0_enc i r) := by
  refine ref26_May_L0.partial_correctness (fun p r => O.loop 9 0 ⟨[(2, AV.ptr 0 0), (5, AV.pv (PV.int IntKind.i64 p.1))], [(0, Blk.box (List.map AV.pv (T.Inst.enc p.2)))], 1⟩ = some (ref26_May_L0_enc p.2 r)) ?_ (k, i) r h
  clear h r k i
  intro ref26_May_L0 ih11
  rintro ⟨k, i⟩ r h
  dsimp only at h ⊢
  by_cases h1 : (decide (k < (i.stops.l.length : Int))) = true
  rw [if_pos h1] at h
  obtain ⟨x3, h2, h⟩ := Option.bind_eq_some_iff.1 h
  have f1 := geti_nat h2 IntKind.i64
  have f2 := geti_map T.Stop.enc h2
  try simp only [T.Stop.enc_eq, encx.down, Nat.zero_add, Nat.reduceAdd] at f2
  have f3 := geti_szcT h2 18
  by_cases h4 : (x3.up != ((-1) : Int)) = true
  rw [if_pos h4] at h
  by_cases g4 : ((decide (x3.up < (0 : Int))) || (decide (x3.up ≥ k))) = true
  focus
    rw [if_pos g4] at h
    rcases (by intro u0 u1; cases u0 <;> cases u1 <;> simp [Dum] : ∀ u0 u1 : Bool, (u0 || u1) = true → (u0 = true ∧ Dum) ∨ (u0 = false ∧ u1 = true)) (decide (x3.up < (0 : Int))) (decide (x3.up ≥ k)) g4 with ⟨h5, h6⟩ | ⟨h5, h6⟩
    clear g4
    all_goals
      cases h
      show _ = some (ref26_May_L0_enc _ (.inl _))
      dsimp only [ref26_May_L0_enc]
      clear ih11
      rotate_left
  rotate_left 2
  rw [if_neg g4] at h; replace g4 := Bool.eq_false_iff.2 g4
  rcases (by intro u0 u1; cases u0 <;> cases u1 <;> simp [Dum] : ∀ u0 u1 : Bool, (u0 || u1) = false → (u0 = false ∧ u1 = false)) (decide (x3.up < (0 : Int))) (decide (x3.up ≥ k)) g4 with ⟨h5, h6⟩
  clear g4
  by_cases h7 : (x3.up != (IntKind.i64.wrap (k - (1 : Int)))) = true
  rw [if_pos h7] at h
  obtain ⟨v9, h8, h⟩ := Option.bind_eq_some_iff.1 h
  have f5 := ref26_In_ok h8
  try simp only [T.Stop.enc_eq, encx.down, Nat.zero_add, Nat.reduceAdd] at f5
  by_cases h10 : (!v9) = true
  rw [if_pos h10] at h
  cases h
  show _ = some (ref26_May_L0_enc _ (.inl _))
  dsimp only [ref26_May_L0_enc]
  clear ih11
  rotate_left
  rw [if_neg h10] at h; replace h10 := Bool.eq_false_iff.2 h10
  by_cases h11 : (decide (x3.up ≥ (0 : Int))) = true
  rw [if_pos h11] at h
  obtain ⟨x13, h12, h⟩ := Option.bind_eq_some_iff.1 h
  have f6 := geti_nat h12 IntKind.i64
  have f7 := geti_map T.Stop.enc h12
  try simp only [T.Stop.enc_eq, encx.down, Nat.zero_add, Nat.reduceAdd] at f7
  have f8 := geti_szcT h12 18
  by_cases h14 : (decide (x3.span.frm > x3.span.to)) = true
  rw [if_pos h14] at h
  cases h
  show _ = some (ref26_May_L0_enc _ (.inl _))
  dsimp only [ref26_May_L0_enc]
  clear ih11
  rotate_left
  rw [if_neg h14] at h; replace h14 := Bool.eq_false_iff.2 h14
  obtain ⟨v16, h15, h⟩ := Option.bind_eq_some_iff.1 h
  have f9 := ref5_Within_ok h15
  try simp only [T.Span.enc_eq, encx.down, Nat.zero_add, Nat.reduceAdd] at f9
  by_cases h17 : (!v16) = true
  rw [if_pos h17] at h
  cases h
  show _ = some (ref26_May_L0_enc _ (.inl _))
  dsimp only [ref26_May_L0_enc]
  clear ih11
  rotate_left
  rw [if_neg h17] at h; replace h17 := Bool.eq_false_iff.2 h17
  obtain ⟨v19, h18, h⟩ := Option.bind_eq_some_iff.1 h
  have f10 := ref26_May_L2_ok h18
  try simp only [T.Inst.enc_eq, T.Span.enc_eq, T.Stop.enc_eq, encx.down, Nat.zero_add, Nat.reduceAdd] at f10
  rcases v19 with y20 | y21
  dsimp only at h
  simp only [ref26_May_L2_enc, T.Inst.enc_eq, T.Span.enc_eq, T.Stop.enc_eq, encx.down, Nat.zero_add, Nat.reduceAdd] at f10
  cases h
  show _ = some (ref26_May_L0_enc _ (.inl _))
  dsimp only [ref26_May_L0_enc]
  clear ih11
  rotate_left
  dsimp only at h
  simp only [ref26_May_L2_enc, T.Inst.enc_eq, T.Span.enc_eq, T.Stop.enc_eq, encx.down, Nat.zero_add, Nat.reduceAdd] at f10
  have f11 := ih11 _ _ h
  try dsimp only at f11
  try simp only [T.Inst.enc_eq, encx.down, Nat.zero_add, Nat.reduceAdd] at f11
  clear h
  clear ih11
  rotate_left
  rw [if_neg h11] at h; replace h11 := Bool.eq_false_iff.2 h11
  by_cases h22 : (decide (x3.span.frm > x3.span.to)) = true
  rw [if_pos h22] at h
  cases h
  show _ = some (ref26_May_L0_enc _ (.inl _))
  dsimp only [ref26_May_L0_enc]
  clear ih11
  rotate_left
  rw [if_neg h22] at h; replace h22 := Bool.eq_false_iff.2 h22
  obtain ⟨v24, h23, h⟩ := Option.bind_eq_some_iff.1 h
  have f12 := ref5_Within_ok h23
  try simp only [T.Span.enc_eq, encx.down, Nat.zero_add, Nat.reduceAdd] at f12
  by_cases h25 : (!v24) = true
  rw [if_pos h25] at h
  cases h
  show _ = some (ref26_May_L0_enc _ (.inl _))
  dsimp only [ref26_May_L0_enc]
  clear ih11
  rotate_left
  rw [if_neg h25] at h; replace h25 := Bool.eq_false_iff.2 h25
  obtain ⟨v27, h26, h⟩ := Option.bind_eq_some_iff.1 h
  have f13 := ref26_May_L2_ok h26
  try simp only [T.Inst.enc_eq, T.Span.enc_eq, T.Stop.enc_eq, encx.down, Nat.zero_add, Nat.reduceAdd] at f13
  rcases v27 with y28 | y29
  dsimp only at h
  simp only [ref26_May_L2_enc, T.Inst.enc_eq, T.Span.enc_eq, T.Stop.enc_eq, encx.down, Nat.zero_add, Nat.reduceAdd] at f13
  cases h
  show _ = some (ref26_May_L0_enc _ (.inl _))
  dsimp only [ref26_May_L0_enc]
  clear ih11
  rotate_left
  dsimp only at h
  simp only [ref26_May_L2_enc, T.Inst.enc_eq, T.Span.enc_eq, T.Stop.enc_eq, encx.down, Nat.zero_add, Nat.reduceAdd] at f13
  have f14 := ih11 _ _ h
  try dsimp only at f14
  try simp only [T.Inst.enc_eq, encx.down, Nat.zero_add, Nat.reduceAdd] at f14
  clear h
  clear ih11
  rotate_left
  rw [if_neg h7] at h; replace h7 := Bool.eq_false_iff.2 h7
  by_cases h30 : (decide (x3.up ≥ (0 : Int))) = true
  rw [if_pos h30] at h
  obtain ⟨x32, h31, h⟩ := Option.bind_eq_some_iff.1 h
  have f15 := geti_nat h31 IntKind.i64
  have f16 := geti_map T.Stop.enc h31
  try simp only [T.Stop.enc_eq, encx.down, Nat.zero_add, Nat.reduceAdd] at f16
  have f17 := geti_szcT h31 18
  by_cases h33 : (decide (x3.span.frm > x3.span.to)) = true
  rw [if_pos h33] at h
  cases h
  show _ = some (ref26_May_L0_enc _ (.inl _))
  dsimp only [ref26_May_L0_enc]
  clear ih11
  rotate_left
  rw [if_neg h33] at h; replace h33 := Bool.eq_false_iff.2 h33
  obtain ⟨v35, h34, h⟩ := Option.bind_eq_some_iff.1 h
  have f18 := ref5_Within_ok h34
  try simp only [T.Span.enc_eq, encx.down, Nat.zero_add, Nat.reduceAdd] at f18
  by_cases h36 : (!v35) = true
  rw [if_pos h36] at h
  cases h
  show _ = some (ref26_May_L0_enc _ (.inl _))
  dsimp only [ref26_May_L0_enc]
  clear ih11
  rotate_left
  rw [if_neg h36] at h; replace h36 := Bool.eq_false_iff.2 h36
  obtain ⟨v38, h37, h⟩ := Option.bind_eq_some_iff.1 h
  have f19 := ref26_May_L2_ok h37
  try simp only [T.Inst.enc_eq, T.Span.enc_eq, T.Stop.enc_eq, encx.down, Nat.zero_add, Nat.reduceAdd] at f19
  rcases v38 with y39 | y40
  dsimp only at h
  simp only [ref26_May_L2_enc, T.Inst.enc_eq, T.Span.enc_eq, T.Stop.enc_eq, encx.down, Nat.zero_add, Nat.reduceAdd] at f19
  cases h
  show _ = some (ref26_May_L0_enc _ (.inl _))
  dsimp only [ref26_May_L0_enc]
  clear ih11
  rotate_left
  dsimp only at h
  simp only [ref26_May_L2_enc, T.Inst.enc_eq, T.Span.enc_eq, T.Stop.enc_eq, encx.down, Nat.zero_add, Nat.reduceAdd] at f19
  have f20 := ih11 _ _ h
  try dsimp only at f20
  try simp only [T.Inst.enc_eq, encx.down, Nat.zero_add, Nat.reduceAdd] at f20
  clear h
  clear ih11
  rotate_left
  rw [if_neg h30] at h; replace h30 := Bool.eq_false_iff.2 h30
  by_cases h41 : (decide (x3.span.frm > x3.span.to)) = true
  rw [if_pos h41] at h
  cases h
  show _ = some (ref26_May_L0_enc _ (.inl _))
  dsimp only [ref26_May_L0_enc]
  clear ih11
  rotate_left
  rw [if_neg h41] at h; replace h41 := Bool.eq_false_iff.2 h41
  obtain ⟨v43, h42, h⟩ := Option.bind_eq_some_iff.1 h
  have f21 := ref5_Within_ok h42
  try simp only [T.Span.enc_eq, encx.down, Nat.zero_add, Nat.reduceAdd] at f21
  by_cases h44 : (!v43) = true
  rw [if_pos h44] at h
  cases h
  show _ = some (ref26_May_L0_enc _ (.inl _))
  dsimp only [ref26_May_L0_enc]
  clear ih11
  rotate_left
  rw [if_neg h44] at h; replace h44 := Bool.eq_false_iff.2 h44
  obtain ⟨v46, h45, h⟩ := Option.bind_eq_some_iff.1 h
  have f22 := ref26_May_L2_ok h45
  try simp only [T.Inst.enc_eq, T.Span.enc_eq, T.Stop.enc_eq, encx.down, Nat.zero_add, Nat.reduceAdd] at f22
  rcases v46 with y47 | y48
  dsimp only at h
  simp only [ref26_May_L2_enc, T.Inst.enc_eq, T.Span.enc_eq, T.Stop.enc_eq, encx.down, Nat.zero_add, Nat.reduceAdd] at f22
  cases h
  show _ = some (ref26_May_L0_enc _ (.inl _))
  dsimp only [ref26_May_L0_enc]
  clear ih11
  rotate_left
  dsimp only at h
  simp only [ref26_May_L2_enc, T.Inst.enc_eq, T.Span.enc_eq, T.Stop.enc_eq, encx.down, Nat.zero_add, Nat.reduceAdd] at f22
  have f23 := ih11 _ _ h
  try dsimp only at f23
  try simp only [T.Inst.enc_eq, encx.down, Nat.zero_add, Nat.reduceAdd] at f23
  clear h
  clear ih11
  rotate_left
  rw [if_neg h4] at h; replace h4 := Bool.eq_false_iff.2 h4
  by_cases h49 : (decide (x3.up ≥ (0 : Int))) = true
  rw [if_pos h49] at h
  obtain ⟨x51, h50, h⟩ := Option.bind_eq_some_iff.1 h
  have f24 := geti_nat h50 IntKind.i64
  have f25 := geti_map T.Stop.enc h50
  try simp only [T.Stop.enc_eq, encx.down, Nat.zero_add, Nat.reduceAdd] at f25
  have f26 := geti_szcT h50 18
  by_cases h52 : (decide (x3.span.frm > x3.span.to)) = true
  rw [if_pos h52] at h
  cases h
  show _ = some (ref26_May_L0_enc _ (.inl _))
  dsimp only [ref26_May_L0_enc]
  clear ih11
  rotate_left
  rw [if_neg h52] at h; replace h52 := Bool.eq_false_iff.2 h52
  obtain ⟨v54, h53, h⟩ := Option.bind_eq_some_iff.1 h
  have f27 := ref5_Within_ok h53
  try simp only [T.Span.enc_eq, encx.down, Nat.zero_add, Nat.reduceAdd] at f27
  by_cases h55 : (!v54) = true
  rw [if_pos h55] at h
  cases h
  show _ = some (ref26_May_L0_enc _ (.inl _))
  dsimp only [ref26_May_L0_enc]
  clear ih11
  rotate_left
  rw [if_neg h55] at h; replace h55 := Bool.eq_false_iff.2 h55
  obtain ⟨v57, h56, h⟩ := Option.bind_eq_some_iff.1 h
  have f28 := ref26_May_L2_ok h56
  try simp only [T.Inst.enc_eq, T.Span.enc_eq, T.Stop.enc_eq, encx.down, Nat.zero_add, Nat.reduceAdd] at f28
  rcases v57 with y58 | y59
  dsimp only at h
  simp only [ref26_May_L2_enc, T.Inst.enc_eq, T.Span.enc_eq, T.Stop.enc_eq, encx.down, Nat.zero_add, Nat.reduceAdd] at f28
  cases h
  show _ = some (ref26_May_L0_enc _ (.inl _))
  dsimp only [ref26_May_L0_enc]
  clear ih11
  rotate_left
  dsimp only at h
  simp only [ref26_May_L2_enc, T.Inst.enc_eq, T.Span.enc_eq, T.Stop.enc_eq, encx.down, Nat.zero_add, Nat.reduceAdd] at f28
  have f29 := ih11 _ _ h
  try dsimp only at f29
  try simp only [T.Inst.enc_eq, encx.down, Nat.zero_add, Nat.reduceAdd] at f29
  clear h
  clear ih11
  rotate_left
  rw [if_neg h49] at h; replace h49 := Bool.eq_false_iff.2 h49
  by_cases h60 : (decide (x3.span.frm > x3.span.to)) = true
  rw [if_pos h60] at h
  cases h
  show _ = some (ref26_May_L0_enc _ (.inl _))
  dsimp only [ref26_May_L0_enc]
  clear ih11
  rotate_left
  rw [if_neg h60] at h; replace h60 := Bool.eq_false_iff.2 h60
  obtain ⟨v62, h61, h⟩ := Option.bind_eq_some_iff.1 h
  have f30 := ref5_Within_ok h61
  try simp only [T.Span.enc_eq, encx.down, Nat.zero_add, Nat.reduceAdd] at f30
  by_cases h63 : (!v62) = true
  rw [if_pos h63] at h
  cases h
  show _ = some (ref26_May_L0_enc _ (.inl _))
  dsimp only [ref26_May_L0_enc]
  clear ih11
  rotate_left
  rw [if_neg h63] at h; replace h63 := Bool.eq_false_iff.2 h63
  obtain ⟨v65, h64, h⟩ := Option.bind_eq_some_iff.1 h
  have f31 := ref26_May_L2_ok h64
  try simp only [T.Inst.enc_eq, T.Span.enc_eq, T.Stop.enc_eq, encx.down, Nat.zero_add, Nat.reduceAdd] at f31
  rcases v65 with y66 | y67
  dsimp only at h
  simp only [ref26_May_L2_enc, T.Inst.enc_eq, T.Span.enc_eq, T.Stop.enc_eq, encx.down, Nat.zero_add, Nat.reduceAdd] at f31
  cases h
  show _ = some (ref26_May_L0_enc _ (.inl _))
  dsimp only [ref26_May_L0_enc]
  clear ih11
  rotate_left
  dsimp only at h
  simp only [ref26_May_L2_enc, T.Inst.enc_eq, T.Span.enc_eq, T.Stop.enc_eq, encx.down, Nat.zero_add, Nat.reduceAdd] at f31
  have f32 := ih11 _ _ h
  try dsimp only at f32
  try simp only [T.Inst.enc_eq, encx.down, Nat.zero_add, Nat.reduceAdd] at f32
  clear h
  clear ih11
  rotate_left
  rw [if_neg h1] at h; replace h1 := Bool.eq_false_iff.2 h1
  cases h
  show _ = some (ref26_May_L0_enc _ (.inr _))
  dsimp only [ref26_May_L0_enc]
  clear ih11
  rotate_left
  all_goals
    refine omega_L fn9 (by rfl) ?_
    simp (disch := first | assumption | rfl | exact Sure.mk (by kernel_rfl)) only [coreG.down, tab.down, ↓reduceIte, Nat.reduceLeDiff, Nat.reduceEqDiff, Nat.reduceLT, Nat.reduceAdd, Nat.reduceSub, Nat.reduceMul, reduceCtorEq, Nat.reducePow, needs, aop, aBin, intBin, aLoad, List.toList_toArray, avOf, pvOf, allPV, List.take, List.drop, List.length_cons, List.length_nil, List.length_map, aStore, AV.stor, AV.cells, List.append, aFieldAddr, List.getElem?_cons_zero, List.getElem?_cons_succ, subHeap, AV.refs, AV.ren, AV.rows, if_true, if_false, List.nil_append, List.append_nil, List.cons_append, tupled, unz, aBuiltin, lenTd, aLen, ptrRows, List.getElem?_nil, touched, List.isEmpty_nil, Option.some.injEq, aUn, pure?, PV.cells, List.replicate, List.set_cons_zero, List.set_cons_succ, aConvert, strBin, sliceOf, eq_self, AV.thaw, Blk.thaw, aSlice, aNil, isNilV, aEq, plainEq, fitAll, keyFits, aMax, maxFrom, aPart, Blk.ren, Blk.refs, List.flatMap_nil, List.flatMap_cons, List.map_cons, List.map_nil, List.drop_zero, Option.isSome_none, Option.isNone_none, Option.isSome_some, Option.isNone_some, sp9_0, sp9_2, T.Inst.enc_eq, *]
set_option maxHeartbeats 4000000 in
theorem ref26_May_ok {i : T.Inst} {n : Int} {r : (Bool)} (h : ref26_May i n = some r) :
    O.call 9 [AV.pv (PV.agg (T.Inst.enc i)), AV.pv (PV.int IntKind.i64 n)] [] = some (AV.pv (PV.bool r), []) := by
  unfold ref26_May at h
  obtain ⟨v2, h1, h⟩ := Option.bind_eq_some_iff.1 h
  have f1 := ref5_May_ok h1
  try simp only [T.Span.enc_eq, encx.down, Nat.zero_add, Nat.reduceAdd] at f1
  by_cases h3 : (!v2) = true
  rw [if_pos h3] at h
  cases h
  rotate_left
  rw [if_neg h3] at h; replace h3 := Bool.eq_false_iff.2 h3
  obtain ⟨v5, h4, h⟩ := Option.bind_eq_some_iff.1 h
  have f2 := ref26_May_L0_ok h4
  try simp only [T.Inst.enc_eq, encx.down, Nat.zero_add, Nat.reduceAdd] at f2
  rcases v5 with y6 | y7
  dsimp only at h
  simp only [ref26_May_L0_enc, T.Inst.enc_eq, encx.down, Nat.zero_add, Nat.reduceAdd] at f2
  cases h
  rotate_left
  dsimp only at h
  simp only [ref26_May_L0_enc, T.Inst.enc_eq, encx.down, Nat.zero_add, Nat.reduceAdd] at f2
  cases h
  rotate_left
  all_goals
    refine omega_F rfl fn9 (by rfl) (by rfl) rfl ?_
    simp (disch := first | assumption | rfl | exact Sure.mk (by kernel_rfl)) only [coreG.down, tab.down, ↓reduceIte, Nat.reduceLeDiff, Nat.reduceEqDiff, Nat.reduceLT, Nat.reduceAdd, Nat.reduceSub, Nat.reduceMul, reduceCtorEq, Nat.reducePow, needs, aop, aBin, intBin, aLoad, List.toList_toArray, avOf, pvOf, allPV, List.take, List.drop, List.length_cons, List.length_nil, List.length_map, aStore, AV.stor, AV.cells, List.append, aFieldAddr, List.getElem?_cons_zero, List.getElem?_cons_succ, subHeap, AV.refs, AV.ren, AV.rows, if_true, if_false, List.nil_append, List.append_nil, List.cons_append, tupled, unz, aBuiltin, lenTd, aLen, ptrRows, List.getElem?_nil, touched, List.isEmpty_nil, Option.some.injEq, aUn, pure?, PV.cells, List.replicate, List.set_cons_zero, List.set_cons_succ, aConvert, strBin, sliceOf, eq_self, AV.thaw, Blk.thaw, aSlice, aNil, isNilV, aEq, plainEq, fitAll, keyFits, aMax, maxFrom, aPart, Blk.ren, Blk.refs, List.flatMap_nil, List.flatMap_cons, List.map_cons, List.map_nil, List.drop_zero, Option.isSome_none, Option.isNone_none, Option.isSome_some, Option.isNone_some, sp9_0, sp9_2, T.Inst.enc_eq, *]
set_option maxHeartbeats 4000000 in
theorem law26_StopsMay_ok {i : T.Inst} {n : Int} {r : (Bool)} (h : law26_StopsMay i n = some r) :
    O.call 3 [AV.pv (PV.agg (T.Inst.enc i)), AV.pv (PV.int IntKind.i64 n)] [] = some (AV.pv (PV.bool r), []) := by
  unfold law26_StopsMay at h
  by_cases h1 : (decide ((i.stops.l.length : Int) > (14 : Int))) = true
  rw [if_pos h1] at h
  obtain ⟨v3, h2, h⟩ := Option.bind_eq_some_iff.1 h
  have f1 := aw7_ok h2
  try simp only [encx.down, Nat.zero_add, Nat.reduceAdd] at f1
  cases h
  rotate_left
  rw [if_neg h1] at h; replace h1 := Bool.eq_false_iff.2 h1
  obtain ⟨v5, h4, h⟩ := Option.bind_eq_some_iff.1 h
  have f2 := stops_May_ok h4
  try simp only [T.Inst.enc_eq, encx.down, Nat.zero_add, Nat.reduceAdd] at f2
  obtain ⟨v7, h6, h⟩ := Option.bind_eq_some_iff.1 h
  have f3 := ref26_May_ok h6
  try simp only [T.Inst.enc_eq, encx.down, Nat.zero_add, Nat.reduceAdd] at f3
  by_cases h8 : (v5 == v7) = true
  rw [if_pos h8] at h
  obtain ⟨v10, h9, h⟩ := Option.bind_eq_some_iff.1 h
  have f4 := aw7_ok h9
  try simp only [encx.down, Nat.zero_add, Nat.reduceAdd] at f4
  cases h
  rotate_left
  rw [if_neg h8] at h; replace h8 := Bool.eq_false_iff.2 h8
  cases h
  rotate_left
  all_goals
    refine omega_F rfl fn3 (by rfl) (by rfl) rfl ?_
    simp (disch := first | assumption | rfl | exact Sure.mk (by kernel_rfl)) only [coreG.down, tab.down, ↓reduceIte, Nat.reduceLeDiff, Nat.reduceEqDiff, Nat.reduceLT, Nat.reduceAdd, Nat.reduceSub, Nat.reduceMul, reduceCtorEq, Nat.reducePow, needs, aop, aBin, intBin, aLoad, List.toList_toArray, avOf, pvOf, allPV, List.take, List.drop, List.length_cons, List.length_nil, List.length_map, aStore, AV.stor, AV.cells, List.append, aFieldAddr, List.getElem?_cons_zero, List.getElem?_cons_succ, subHeap, AV.refs, AV.ren, AV.rows, if_true, if_false, List.nil_append, List.append_nil, List.cons_append, tupled, unz, aBuiltin, lenTd, aLen, ptrRows, List.getElem?_nil, touched, List.isEmpty_nil, Option.some.injEq, aUn, pure?, PV.cells, List.replicate, List.set_cons_zero, List.set_cons_succ, aConvert, strBin, sliceOf, eq_self, AV.thaw, Blk.thaw, aSlice, aNil, isNilV, aEq, plainEq, fitAll, keyFits, aMax, maxFrom, aPart, Blk.ren, Blk.refs, List.flatMap_nil, List.flatMap_cons, List.map_cons, List.map_nil, List.drop_zero, Option.isSome_none, Option.isNone_none, Option.isSome_some, Option.isNone_some, T.Inst.enc_eq, *]
def law26_much_L0_enc : ((Bool) ⊕ (Unit)) → Ex × St
  | .inl y => (Ex.ret, ⟨[(4, AV.pv (PV.bool y))], [], 0⟩)
  | .inr y => (Ex.normal, ⟨[(4, AV.undef)], [], 0⟩)
set_option maxHeartbeats 4000000 in
theorem law26_much_L0_ok {n : Int} {is : (Sl T.Inst)} {i : Int} {r : ((Bool) ⊕ (Unit))} (h : law26_much_L0 (n, is, i) = some r) :
    O.loop 14 0 ⟨[(0, AV.pv (PV.int IntKind.i64 n)), (1, AV.pv (PV.sl is.nil (szc 3 is.l) (List.map T.Inst.enc is.l))), (5, AV.pv (PV.int IntKind.i64 i))], [], 0⟩ = some (law26_much_L0_enc r) := by
  refine law26_much_L0.partial_correctness (fun p r => O.loop 14 0 ⟨[(0, AV.pv (PV.int IntKind.i64 p.1)), (1, AV.pv (PV.sl p.2.1.nil (szc 3 p.2.1.l) (List.map T.Inst.enc p.2.1.l))), (5, AV.pv (PV.int IntKind.i64 p.2.2))], [], 0⟩ = some (law26_much_L0_enc r)) ?_ (n, is, i) r h
  clear h r n is i
  intro law26_much_L0 ih18
  rintro ⟨n, is, i⟩ r h
  dsimp only at h ⊢
  by_cases h1 : (decide (i < (is.l.length : Int))) = true
  rw [if_pos h1] at h
  obtain ⟨x3, h2, h⟩ := Option.bind_eq_some_iff.1 h
  have f1 := geti_nat h2 IntKind.i64
  have f2 := geti_map T.Inst.enc h2
  try simp only [T.Inst.enc_eq, encx.down, Nat.zero_add, Nat.reduceAdd] at f2
  have f3 := geti_szcT h2 3
  by_cases h4 : (decide ((x3.stops.l.length : Int) > n)) = true
  rw [if_pos h4] at h
  cases h
  show _ = some (law26_much_L0_enc (.inl _))
  dsimp only [law26_much_L0_enc]
  clear ih18
  rotate_left
  rw [if_neg h4] at h; replace h4 := Bool.eq_false_iff.2 h4
  have f4 := ih18 _ _ h
  try dsimp only at f4
  try simp only [T.Inst.enc_eq, encx.down, Nat.zero_add, Nat.reduceAdd] at f4
  clear h
  clear ih18
  rotate_left
  rw [if_neg h1] at h; replace h1 := Bool.eq_false_iff.2 h1
  cases h
  show _ = some (law26_much_L0_enc (.inr _))
  dsimp only [law26_much_L0_enc]
  clear ih18
  rotate_left
  all_goals
    refine omega_L fn14 (by rfl) ?_
    simp (disch := first | assumption | rfl | exact Sure.mk (by kernel_rfl)) only [coreG.down, tab.down, ↓reduceIte, Nat.reduceLeDiff, Nat.reduceEqDiff, Nat.reduceLT, Nat.reduceAdd, Nat.reduceSub, Nat.reduceMul, reduceCtorEq, Nat.reducePow, needs, aop, aBin, intBin, aLoad, List.toList_toArray, avOf, pvOf, allPV, List.take, List.drop, List.length_cons, List.length_nil, List.length_map, aStore, AV.stor, AV.cells, List.append, aFieldAddr, List.getElem?_cons_zero, List.getElem?_cons_succ, subHeap, AV.refs, AV.ren, AV.rows, if_true, if_false, List.nil_append, List.append_nil, List.cons_append, tupled, unz, aBuiltin, lenTd, aLen, ptrRows, List.getElem?_nil, touched, List.isEmpty_nil, Option.some.injEq, aUn, pure?, PV.cells, List.replicate, List.set_cons_zero, List.set_cons_succ, aConvert, strBin, sliceOf, eq_self, AV.thaw, Blk.thaw, aSlice, aNil, isNilV, aEq, plainEq, fitAll, keyFits, aMax, maxFrom, aPart, Blk.ren, Blk.refs, List.flatMap_nil, List.flatMap_cons, List.map_cons, List.map_nil, List.drop_zero, Option.isSome_none, Option.isNone_none, Option.isSome_some, Option.isNone_some, sp14_0, T.Inst.enc_eq, *]
set_option maxHeartbeats 4000000 in
theorem law26_much_ok {n : Int} {is : (Sl T.Inst)} {r : (Bool)} (h : law26_much n is = some r) :
    O.call 14 [AV.pv (PV.int IntKind.i64 n), AV.pv (PV.sl is.nil (szc 3 is.l) (List.map T.Inst.enc is.l))] [] = some (AV.pv (PV.bool r), []) := by
  unfold law26_much at h
  by_cases h1 : (decide ((is.l.length : Int) > (10 : Int))) = true
  rw [if_pos h1] at h
  cases h
  rotate_left
  rw [if_neg h1] at h; replace h1 := Bool.eq_false_iff.2 h1
  obtain ⟨v3, h2, h⟩ := Option.bind_eq_some_iff.1 h
  have f1 := law26_much_L0_ok h2
  try simp only [T.Inst.enc_eq, encx.down, Nat.zero_add, Nat.reduceAdd] at f1
  rcases v3 with y4 | y5
  dsimp only at h
  simp only [law26_much_L0_enc, T.Inst.enc_eq, encx.down, Nat.zero_add, Nat.reduceAdd] at f1
  cases h
  rotate_left
  dsimp only at h
  simp only [law26_much_L0_enc, T.Inst.enc_eq, encx.down, Nat.zero_add, Nat.reduceAdd] at f1
  cases h
  rotate_left
  all_goals
    refine omega_F rfl fn14 (by rfl) (by rfl) rfl ?_
    simp (disch := first | assumption | rfl | exact Sure.mk (by kernel_rfl)) only [coreG.down, tab.down, ↓reduceIte, Nat.reduceLeDiff, Nat.reduceEqDiff, Nat.reduceLT, Nat.reduceAdd, Nat.reduceSub, Nat.reduceMul, reduceCtorEq, Nat.reducePow, needs, aop, aBin, intBin, aLoad, List.toList_toArray, avOf, pvOf, allPV, List.take, List.drop, List.length_cons, List.length_nil, List.length_map, aStore, AV.stor, AV.cells, List.append, aFieldAddr, List.getElem?_cons_zero, List.getElem?_cons_succ, subHeap, AV.refs, AV.ren, AV.rows, if_true, if_false, List.nil_append, List.append_nil, List.cons_append, tupled, unz, aBuiltin, lenTd, aLen, ptrRows, List.getElem?_nil, touched, List.isEmpty_nil, Option.some.injEq, aUn, pure?, PV.cells, List.replicate, List.set_cons_zero, List.set_cons_succ, aConvert, strBin, sliceOf, eq_self, AV.thaw, Blk.thaw, aSlice, aNil, isNilV, aEq, plainEq, fitAll, keyFits, aMax, maxFrom, aPart, Blk.ren, Blk.refs, List.flatMap_nil, List.flatMap_cons, List.map_cons, List.map_nil, List.drop_zero, Option.isSome_none, Option.isNone_none, Option.isSome_some, Option.isNone_some, sp14_0, T.Inst.enc_eq, *]
set_option maxHeartbeats 4000000 in
theorem stops_Numbers_L2_ok {t11 : (Sl T.Inst)} {t12 : Int} {t13 : Int} {t18 : (Sl T.Stop)} {t19 : Int} {t20 : Int} {in_ : MapII} {b1_ : T.Inst} {r : (MapII)} (h : stops_Numbers_L2 (t11, t12, t13, t18, t19, t20, in_, b1_) = some r) :
    O.loop 19 2 ⟨[(3, AV.map 0), (11, AV.pv (PV.sl t11.nil (szc 3 t11.l) (List.map T.Inst.enc t11.l))), (12, AV.pv (PV.int IntKind.i64 t12)), (13, AV.pv (PV.int IntKind.i64 t13)), (18, AV.pv (PV.sl t18.nil (szc 18 t18.l) (List.map T.Stop.enc t18.l))), (19, AV.pv (PV.int IntKind.i64 t19)), (20, AV.pv (PV.int IntKind.i64 t20))], [(0, Blk.map (List.map entE in_.es) in_.clock), (1, Blk.box (List.map AV.pv (T.Inst.enc b1_)))], 2⟩ = some (Ex.normal, ⟨[(3, AV.map 0), (11, AV.pv (PV.sl t11.nil (szc 3 t11.l) (List.map T.Inst.enc t11.l))), (12, AV.pv (PV.int IntKind.i64 t12)), (13, AV.pv (PV.int IntKind.i64 t13))], [(0, Blk.map (List.map entE r.es) r.clock), (1, Blk.box (List.map AV.pv (T.Inst.enc b1_)))], 2⟩) := by
  refine stops_Numbers_L2.partial_correctness (fun p r => O.loop 19 2 ⟨[(3, AV.map 0), (11, AV.pv (PV.sl p.1.nil (szc 3 p.1.l) (List.map T.Inst.enc p.1.l))), (12, AV.pv (PV.int IntKind.i64 p.2.1)), (13, AV.pv (PV.int IntKind.i64 p.2.2.1)), (18, AV.pv (PV.sl p.2.2.2.1.nil (szc 18 p.2.2.2.1.l) (List.map T.Stop.enc p.2.2.2.1.l))), (19, AV.pv (PV.int IntKind.i64 p.2.2.2.2.1)), (20, AV.pv (PV.int IntKind.i64 p.2.2.2.2.2.1))], [(0, Blk.map (List.map entE p.2.2.2.2.2.2.1.es) p.2.2.2.2.2.2.1.clock), (1, Blk.box (List.map AV.pv (T.Inst.enc p.2.2.2.2.2.2.2)))], 2⟩ = some (Ex.normal, ⟨[(3, AV.map 0), (11, AV.pv (PV.sl p.1.nil (szc 3 p.1.l) (List.map T.Inst.enc p.1.l))), (12, AV.pv (PV.int IntKind.i64 p.2.1)), (13, AV.pv (PV.int IntKind.i64 p.2.2.1))], [(0, Blk.map (List.map entE r.es) r.clock), (1, Blk.box (List.map AV.pv (T.Inst.enc p.2.2.2.2.2.2.2)))], 2⟩)) ?_ (t11, t12, t13, t18, t19, t20, in_, b1_) r h
  clear h r t11 t12 t13 t18 t19 t20 in_ b1_
  intro stops_Numbers_L2 ih22
  rintro ⟨t11, t12, t13, t18, t19, t20, in_, b1_⟩ r h
  dsimp only at h ⊢
  by_cases h1 : (decide (t20 < t19)) = true
  rw [if_pos h1] at h
  obtain ⟨x3, h2, h⟩ := Option.bind_eq_some_iff.1 h
  have f1 := geti_nat h2 IntKind.i64
  have f2 := geti_map T.Stop.enc h2
  try simp only [T.Stop.enc_eq, encx.down, Nat.zero_add, Nat.reduceAdd] at f2
  have f3 := geti_szcT h2 18
  by_cases h4 : (!x3.turned) = true
  rw [if_pos h4] at h
  have f4 := fun b => mii_get b in_ x3.n
  try simp only [encx.down, Nat.zero_add, Nat.reduceAdd] at f4
  have f5 := mii_put 0 in_ x3.n (IntKind.i64.wrap ((mget in_ x3.n) + (1 : Int)))
  try simp only [encx.down, Nat.zero_add, Nat.reduceAdd] at f5
  have f6 := ih22 _ _ h
  try dsimp only at f6
  try simp only [T.Inst.enc_eq, T.Stop.enc_eq, encx.down, Nat.zero_add, Nat.reduceAdd] at f6
  clear h
  clear ih22
  rotate_left
  rw [if_neg h4] at h; replace h4 := Bool.eq_false_iff.2 h4
  have f7 := ih22 _ _ h
  try dsimp only at f7
  try simp only [T.Inst.enc_eq, T.Stop.enc_eq, encx.down, Nat.zero_add, Nat.reduceAdd] at f7
  clear h
  clear ih22
  rotate_left
  rw [if_neg h1] at h; replace h1 := Bool.eq_false_iff.2 h1
  cases h
  clear ih22
  rotate_left
  all_goals
    refine omega_L fn19 (by rfl) ?_
    simp (disch := first | assumption | rfl | exact Sure.mk (by kernel_rfl)) only [coreG.down, tab.down, ↓reduceIte, Nat.reduceLeDiff, Nat.reduceEqDiff, Nat.reduceLT, Nat.reduceAdd, Nat.reduceSub, Nat.reduceMul, reduceCtorEq, Nat.reducePow, needs, aop, aBin, intBin, aLoad, List.toList_toArray, avOf, pvOf, allPV, List.take, List.drop, List.length_cons, List.length_nil, List.length_map, aStore, AV.stor, AV.cells, List.append, aFieldAddr, List.getElem?_cons_zero, List.getElem?_cons_succ, subHeap, AV.refs, AV.ren, AV.rows, if_true, if_false, List.nil_append, List.append_nil, List.cons_append, tupled, unz, aBuiltin, lenTd, aLen, ptrRows, List.getElem?_nil, touched, List.isEmpty_nil, Option.some.injEq, aUn, pure?, PV.cells, List.replicate, List.set_cons_zero, List.set_cons_succ, aConvert, strBin, sliceOf, eq_self, AV.thaw, Blk.thaw, aSlice, aNil, isNilV, aEq, plainEq, fitAll, keyFits, aMax, maxFrom, aPart, Blk.ren, Blk.refs, List.flatMap_nil, List.flatMap_cons, List.map_cons, List.map_nil, List.drop_zero, Option.isSome_none, Option.isNone_none, Option.isSome_some, Option.isNone_some, sp19_0, sp19_2, T.Inst.enc_eq, T.Stop.enc_eq, *]
set_option maxHeartbeats 4000000 in
theorem stops_Numbers_L0_ok {t11 : (Sl T.Inst)} {t12 : Int} {t13 : Int} {in_ : MapII} {r : (MapII)} (h : stops_Numbers_L0 (t11, t12, t13, in_) = some r) :
    O.loop 19 0 ⟨[(3, AV.map 0), (11, AV.pv (PV.sl t11.nil (szc 3 t11.l) (List.map T.Inst.enc t11.l))), (12, AV.pv (PV.int IntKind.i64 t12)), (13, AV.pv (PV.int IntKind.i64 t13))], [(0, Blk.map (List.map entE in_.es) in_.clock)], 1⟩ = some (Ex.normal, ⟨[(3, AV.map 0)], [(0, Blk.map (List.map entE r.es) r.clock)], 1⟩) := by
  refine stops_Numbers_L0.partial_correctness (fun p r => O.loop 19 0 ⟨[(3, AV.map 0), (11, AV.pv (PV.sl p.1.nil (szc 3 p.1.l) (List.map T.Inst.enc p.1.l))), (12, AV.pv (PV.int IntKind.i64 p.2.1)), (13, AV.pv (PV.int IntKind.i64 p.2.2.1))], [(0, Blk.map (List.map entE p.2.2.2.es) p.2.2.2.clock)], 1⟩ = some (Ex.normal, ⟨[(3, AV.map 0)], [(0, Blk.map (List.map entE r.es) r.clock)], 1⟩)) ?_ (t11, t12, t13, in_) r h
  clear h r t11 t12 t13 in_
  intro stops_Numbers_L0 ih21
  rintro ⟨t11, t12, t13, in_⟩ r h
  dsimp only at h ⊢
  by_cases h1 : (decide (t13 < t12)) = true
  rw [if_pos h1] at h
  obtain ⟨x3, h2, h⟩ := Option.bind_eq_some_iff.1 h
  have f1 := geti_nat h2 IntKind.i64
  have f2 := geti_map T.Inst.enc h2
  try simp only [T.Inst.enc_eq, encx.down, Nat.zero_add, Nat.reduceAdd] at f2
  have f3 := geti_szcT h2 3
  obtain ⟨v5, h4, h⟩ := Option.bind_eq_some_iff.1 h
  have f4 := stops_Numbers_L2_ok h4
  try simp only [T.Inst.enc_eq, T.Stop.enc_eq, encx.down, Nat.zero_add, Nat.reduceAdd] at f4
  have f5 := ih21 _ _ h
  try dsimp only at f5
  try simp only [T.Inst.enc_eq, encx.down, Nat.zero_add, Nat.reduceAdd] at f5
  clear h
  clear ih21
  rotate_left
  rw [if_neg h1] at h; replace h1 := Bool.eq_false_iff.2 h1
  cases h
  clear ih21
  rotate_left
  all_goals
    refine omega_L fn19 (by rfl) ?_
    simp (disch := first | assumption | rfl | exact Sure.mk (by kernel_rfl)) only [coreG.down, tab.down, ↓reduceIte, Nat.reduceLeDiff, Nat.reduceEqDiff, Nat.reduceLT, Nat.reduceAdd, Nat.reduceSub, Nat.reduceMul, reduceCtorEq, Nat.reducePow, needs, aop, aBin, intBin, aLoad, List.toList_toArray, avOf, pvOf, allPV, List.take, List.drop, List.length_cons, List.length_nil, List.length_map, aStore, AV.stor, AV.cells, List.append, aFieldAddr, List.getElem?_cons_zero, List.getElem?_cons_succ, subHeap, AV.refs, AV.ren, AV.rows, if_true, if_false, List.nil_append, List.append_nil, List.cons_append, tupled, unz, aBuiltin, lenTd, aLen, ptrRows, List.getElem?_nil, touched, List.isEmpty_nil, Option.some.injEq, aUn, pure?, PV.cells, List.replicate, List.set_cons_zero, List.set_cons_succ, aConvert, strBin, sliceOf, eq_self, AV.thaw, Blk.thaw, aSlice, aNil, isNilV, aEq, plainEq, fitAll, keyFits, aMax, maxFrom, aPart, Blk.ren, Blk.refs, List.flatMap_nil, List.flatMap_cons, List.map_cons, List.map_nil, List.drop_zero, Option.isSome_none, Option.isNone_none, Option.isSome_some, Option.isNone_some, sp19_0, sp19_2, T.Inst.enc_eq, *]
set_option maxHeartbeats 4000000 in
theorem maps_Keys_map_int_int_ok {m : MapII} {r : (Unit)} (h : maps_Keys_map_int_int m = some r) :
    O.call 33 [AV.map 0] [(0, Blk.map (List.map entE m.es) m.clock)] = some (AV.clo 46 [] [AV.ptr 1 0], [(0, Blk.map (List.map entE m.es) m.clock), (1, Blk.box [AV.map 0])]) := by
  unfold maps_Keys_map_int_int at h
  cases h
  rotate_left
  all_goals
    refine omega_F rfl fn33 (by rfl) (by rfl) rfl ?_
    simp (disch := first | assumption | rfl | exact Sure.mk (by kernel_rfl)) only [coreG.down, tab.down, ↓reduceIte, Nat.reduceLeDiff, Nat.reduceEqDiff, Nat.reduceLT, Nat.reduceAdd, Nat.reduceSub, Nat.reduceMul, reduceCtorEq, Nat.reducePow, needs, aop, aBin, intBin, aLoad, List.toList_toArray, avOf, pvOf, allPV, List.take, List.drop, List.length_cons, List.length_nil, List.length_map, aStore, AV.stor, AV.cells, List.append, aFieldAddr, List.getElem?_cons_zero, List.getElem?_cons_succ, subHeap, AV.refs, AV.ren, AV.rows, if_true, if_false, List.nil_append, List.append_nil, List.cons_append, tupled, unz, aBuiltin, lenTd, aLen, ptrRows, List.getElem?_nil, touched, List.isEmpty_nil, Option.some.injEq, aUn, pure?, PV.cells, List.replicate, List.set_cons_zero, List.set_cons_succ, aConvert, strBin, sliceOf, eq_self, AV.thaw, Blk.thaw, aSlice, aNil, isNilV, aEq, plainEq, fitAll, keyFits, aMax, maxFrom, aPart, Blk.ren, Blk.refs, List.flatMap_nil, List.flatMap_cons, List.map_cons, List.map_nil, List.drop_zero, Option.isSome_none, Option.isNone_none, Option.isSome_some, Option.isNone_some, *]
set_option maxHeartbeats 4000000 in
theorem stops_Numbers_ok {is : (Sl T.Inst)} {r : ((List Int))} (h : stops_Numbers is = some r) :
    O.call 19 [AV.pv (PV.sl is.nil (szc 3 is.l) (List.map T.Inst.enc is.l))] [] = some (AV.row 0 r.length 0 r.length, [(0, Blk.row r.isEmpty (szc 1 r) (List.map intE r))]) := by
  unfold stops_Numbers at h
  obtain ⟨v2, h1, h⟩ := Option.bind_eq_some_iff.1 h
  have f1 := stops_Numbers_L0_ok h1
  try simp only [T.Inst.enc_eq, encx.down, Nat.zero_add, Nat.reduceAdd] at f1
  have f2 := fun b => mii_get b v2 (0 : Int)
  try simp only [encx.down, Nat.zero_add, Nat.reduceAdd] at f2
  have f3 := mii_del 0 v2 (0 : Int)
  try simp only [encx.down, Nat.zero_add, Nat.reduceAdd] at f3
  obtain ⟨v4, h3, h⟩ := Option.bind_eq_some_iff.1 h
  have f4 := maps_Keys_map_int_int_ok h3
  try simp only [encx.down, Nat.zero_add, Nat.reduceAdd] at f4
  obtain ⟨v6, h5, h⟩ := Option.bind_eq_some_iff.1 h
  have f5 := sortedKeys_ok h5
  try simp only [intE, encx.down, Nat.zero_add, Nat.reduceAdd] at f5
  by_cases h7 : (decide ((mget v2 (0 : Int)) > (0 : Int))) = true
  rw [if_pos h7] at h
  by_cases h8 : ¬ (roomOK (v6.length + 1) 8 = true)
  rw [if_neg h8] at h; cases h
  replace h8 := Decidable.of_not_not h8; rw [if_pos h8] at h
  have f6 := h8
  have f7 := fun te β nx c0 (h1 : 1 = te.size) (h2 : roomOK (v6.length + 1) te.bytes = true) => rowApp_G te β 1 nx intE v6 c0 [] h1 h2
  have f8 : List.map intE v6 ++ [[PV.int IntKind.i64 (0 : Int)]] = List.map intE (v6 ++ [(0 : Int)]) := by simp only [List.map_append, List.map_cons, List.map_nil, u8_nat, u8_wrap, intE]
  cases h
  rotate_left
  rw [if_neg h7] at h; replace h7 := Bool.eq_false_iff.2 h7
  cases h
  rotate_left
  all_goals
    refine omega_F rfl fn19 (by rfl) (by rfl) rfl ?_
    simp (disch := first | assumption | rfl | exact Sure.mk (by kernel_rfl)) only [coreG.down, tab.down, ↓reduceIte, Nat.reduceLeDiff, Nat.reduceEqDiff, Nat.reduceLT, Nat.reduceAdd, Nat.reduceSub, Nat.reduceMul, reduceCtorEq, Nat.reducePow, needs, aop, aBin, intBin, aLoad, List.toList_toArray, avOf, pvOf, allPV, List.take, List.drop, List.length_cons, List.length_nil, List.length_map, aStore, AV.stor, AV.cells, List.append, aFieldAddr, List.getElem?_cons_zero, List.getElem?_cons_succ, subHeap, AV.refs, AV.ren, AV.rows, if_true, if_false, List.nil_append, List.append_nil, List.cons_append, tupled, unz, aBuiltin, lenTd, aLen, ptrRows, List.getElem?_nil, touched, List.isEmpty_nil, Option.some.injEq, aUn, pure?, PV.cells, List.replicate, List.set_cons_zero, List.set_cons_succ, aConvert, strBin, sliceOf, eq_self, AV.thaw, Blk.thaw, aSlice, aNil, isNilV, aEq, plainEq, fitAll, keyFits, aMax, maxFrom, aPart, Blk.ren, Blk.refs, List.flatMap_nil, List.flatMap_cons, List.map_cons, List.map_nil, List.drop_zero, Option.isSome_none, Option.isNone_none, Option.isSome_some, Option.isNone_some, sp19_0, sp19_2, T.Inst.enc_eq, intE, *]
set_option maxHeartbeats 4000000 in
theorem stops_above_ok {n : Int} {cur : Int} {r : (Bool)} (h : stops_above n cur = some r) :
    O.call 40 [AV.pv (PV.int IntKind.i64 n), AV.pv (PV.int IntKind.i64 cur)] [] = some (AV.pv (PV.bool r), []) := by
  unfold stops_above at h
  by_cases h1 : (cur != (0 : Int)) = true
  rw [if_pos h1] at h
  by_cases h2 : (n == (0 : Int)) = true
  rw [if_pos h2] at h
  cases h
  rotate_left
  rw [if_neg h2] at h; replace h2 := Bool.eq_false_iff.2 h2
  cases h
  rotate_left
  rw [if_neg h1] at h; replace h1 := Bool.eq_false_iff.2 h1
  cases h
  rotate_left
  all_goals
    refine omega_F rfl fn40 (by rfl) (by rfl) rfl ?_
    simp (disch := first | assumption | rfl | exact Sure.mk (by kernel_rfl)) only [coreG.down, tab.down, ↓reduceIte, Nat.reduceLeDiff, Nat.reduceEqDiff, Nat.reduceLT, Nat.reduceAdd, Nat.reduceSub, Nat.reduceMul, reduceCtorEq, Nat.reducePow, needs, aop, aBin, intBin, aLoad, List.toList_toArray, avOf, pvOf, allPV, List.take, List.drop, List.length_cons, List.length_nil, List.length_map, aStore, AV.stor, AV.cells, List.append, aFieldAddr, List.getElem?_cons_zero, List.getElem?_cons_succ, subHeap, AV.refs, AV.ren, AV.rows, if_true, if_false, List.nil_append, List.append_nil, List.cons_append, tupled, unz, aBuiltin, lenTd, aLen, ptrRows, List.getElem?_nil, touched, List.isEmpty_nil, Option.some.injEq, aUn, pure?, PV.cells, List.replicate, List.set_cons_zero, List.set_cons_succ, aConvert, strBin, sliceOf, eq_self, AV.thaw, Blk.thaw, aSlice, aNil, isNilV, aEq, plainEq, fitAll, keyFits, aMax, maxFrom, aPart, Blk.ren, Blk.refs, List.flatMap_nil, List.flatMap_cons, List.map_cons, List.map_nil, List.drop_zero, Option.isSome_none, Option.isNone_none, Option.isSome_some, Option.isNone_some, *]
def stops_Next_L0_enc (t9 : (List Int)) : ((Int × Bool) ⊕ (Unit)) → Ex × St
  | .inl y => (Ex.ret, ⟨[(4, AV.pv (PV.int IntKind.i64 y.1)), (5, AV.pv (PV.bool y.2))], [(0, Blk.row t9.isEmpty (szc 1 t9) (List.map intE t9))], 1⟩)
  | .inr y => (Ex.normal, ⟨[(4, AV.undef), (5, AV.undef)], [(0, Blk.row t9.isEmpty (szc 1 t9) (List.map intE t9))], 1⟩)
set_option maxHeartbeats 4000000 in
theorem stops_Next_L0_ok {cur : Int} {t10 : Int} {t11 : Int} {t9 : (List Int)} {r : ((Int × Bool) ⊕ (Unit))} (h : stops_Next_L0 (cur, t10, t11, t9) = some r) :
    O.loop 15 0 ⟨[(0, AV.pv (PV.int IntKind.i64 cur)), (9, AV.row 0 t9.length 0 t9.length), (10, AV.pv (PV.int IntKind.i64 t10)), (11, AV.pv (PV.int IntKind.i64 t11))], [(0, Blk.row t9.isEmpty (szc 1 t9) (List.map intE t9))], 1⟩ = some (stops_Next_L0_enc t9 r) := by
  refine stops_Next_L0.partial_correctness (fun p r => O.loop 15 0 ⟨[(0, AV.pv (PV.int IntKind.i64 p.1)), (9, AV.row 0 p.2.2.2.length 0 p.2.2.2.length), (10, AV.pv (PV.int IntKind.i64 p.2.1)), (11, AV.pv (PV.int IntKind.i64 p.2.2.1))], [(0, Blk.row p.2.2.2.isEmpty (szc 1 p.2.2.2) (List.map intE p.2.2.2))], 1⟩ = some (stops_Next_L0_enc p.2.2.2 r)) ?_ (cur, t10, t11, t9) r h
  clear h r cur t10 t11 t9
  intro stops_Next_L0 ih25
  rintro ⟨cur, t10, t11, t9⟩ r h
  dsimp only at h ⊢
  by_cases h1 : (decide (t11 < t10)) = true
  rw [if_pos h1] at h
  obtain ⟨x3, h2, h⟩ := Option.bind_eq_some_iff.1 h
  have f1 := geti_nat h2 IntKind.i64
  have f2 := geti_map intE h2
  try simp only [intE, encx.down, Nat.zero_add, Nat.reduceAdd] at f2
  have f3 := geti_lt h2
  have f4 := geti_ne h2
  have f5 := geti_szc h2 1
  obtain ⟨v5, h4, h⟩ := Option.bind_eq_some_iff.1 h
  have f6 := stops_above_ok h4
  try simp only [encx.down, Nat.zero_add, Nat.reduceAdd, f4, f5] at f6
  by_cases h6 : v5 = true
  rw [if_pos h6] at h
  try simp only [h6, f4, f5] at f6
  cases h
  show _ = some (stops_Next_L0_enc _ (.inl _))
  dsimp only [stops_Next_L0_enc]
  clear ih25
  rotate_left
  rw [if_neg h6] at h; replace h6 := Bool.eq_false_iff.2 h6
  try simp only [h6, f4, f5] at f6
  have f7 := ih25 _ _ h
  try dsimp only at f7
  try simp only [intE, encx.down, Nat.zero_add, Nat.reduceAdd, f4, f5] at f7
  clear h
  try simp only [h6, f4, f5] at f7
  clear ih25
  rotate_left
  rw [if_neg h1] at h; replace h1 := Bool.eq_false_iff.2 h1
  cases h
  show _ = some (stops_Next_L0_enc _ (.inr _))
  dsimp only [stops_Next_L0_enc]
  clear ih25
  rotate_left
  all_goals
    refine omega_L fn15 (by rfl) ?_
    simp (disch := first | assumption | rfl | exact Sure.mk (by kernel_rfl)) only [coreG.down, tab.down, ↓reduceIte, Nat.reduceLeDiff, Nat.reduceEqDiff, Nat.reduceLT, Nat.reduceAdd, Nat.reduceSub, Nat.reduceMul, reduceCtorEq, Nat.reducePow, needs, aop, aBin, intBin, aLoad, List.toList_toArray, avOf, pvOf, allPV, List.take, List.drop, List.length_cons, List.length_nil, List.length_map, aStore, AV.stor, AV.cells, List.append, aFieldAddr, List.getElem?_cons_zero, List.getElem?_cons_succ, subHeap, AV.refs, AV.ren, AV.rows, if_true, if_false, List.nil_append, List.append_nil, List.cons_append, tupled, unz, aBuiltin, lenTd, aLen, ptrRows, List.getElem?_nil, touched, List.isEmpty_nil, Option.some.injEq, aUn, pure?, PV.cells, List.replicate, List.set_cons_zero, List.set_cons_succ, aConvert, strBin, sliceOf, eq_self, AV.thaw, Blk.thaw, aSlice, aNil, isNilV, aEq, plainEq, fitAll, keyFits, aMax, maxFrom, aPart, Blk.ren, Blk.refs, List.flatMap_nil, List.flatMap_cons, List.map_cons, List.map_nil, List.drop_zero, Option.isSome_none, Option.isNone_none, Option.isSome_some, Option.isNone_some, sp15_0, intE, *]
set_option maxHeartbeats 4000000 in
theorem stops_Next_ok {cur : Int} {is : (Sl T.Inst)} {r : (Int × Bool)} (h : stops_Next cur is = some r) :
    O.call 15 [AV.pv (PV.int IntKind.i64 cur), AV.pv (PV.sl is.nil (szc 3 is.l) (List.map T.Inst.enc is.l))] [] = some (AV.tup [AV.pv (PV.int IntKind.i64 r.1), AV.pv (PV.bool r.2)], []) := by
  unfold stops_Next at h
  obtain ⟨v2, h1, h⟩ := Option.bind_eq_some_iff.1 h
  have f1 := stops_Numbers_ok h1
  try simp only [T.Inst.enc_eq, intE, encx.down, Nat.zero_add, Nat.reduceAdd] at f1
  obtain ⟨v4, h3, h⟩ := Option.bind_eq_some_iff.1 h
  have f2 := stops_Next_L0_ok h3
  try simp only [intE, encx.down, Nat.zero_add, Nat.reduceAdd] at f2
  rcases v4 with y5 | y6
  dsimp only at h
  simp only [stops_Next_L0_enc, intE, encx.down, Nat.zero_add, Nat.reduceAdd] at f2
  cases h
  rotate_left
  dsimp only at h
  simp only [stops_Next_L0_enc, intE, encx.down, Nat.zero_add, Nat.reduceAdd] at f2
  cases h
  rotate_left
  all_goals
    refine omega_F rfl fn15 (by rfl) (by rfl) rfl ?_
    simp (disch := first | assumption | rfl | exact Sure.mk (by kernel_rfl)) only [coreG.down, tab.down, ↓reduceIte, Nat.reduceLeDiff, Nat.reduceEqDiff, Nat.reduceLT, Nat.reduceAdd, Nat.reduceSub, Nat.reduceMul, reduceCtorEq, Nat.reducePow, needs, aop, aBin, intBin, aLoad, List.toList_toArray, avOf, pvOf, allPV, List.take, List.drop, List.length_cons, List.length_nil, List.length_map, aStore, AV.stor, AV.cells, List.append, aFieldAddr, List.getElem?_cons_zero, List.getElem?_cons_succ, subHeap, AV.refs, AV.ren, AV.rows, if_true, if_false, List.nil_append, List.append_nil, List.cons_append, tupled, unz, aBuiltin, lenTd, aLen, ptrRows, List.getElem?_nil, touched, List.isEmpty_nil, Option.some.injEq, aUn, pure?, PV.cells, List.replicate, List.set_cons_zero, List.set_cons_succ, aConvert, strBin, sliceOf, eq_self, AV.thaw, Blk.thaw, aSlice, aNil, isNilV, aEq, plainEq, fitAll, keyFits, aMax, maxFrom, aPart, Blk.ren, Blk.refs, List.flatMap_nil, List.flatMap_cons, List.map_cons, List.map_nil, List.drop_zero, Option.isSome_none, Option.isNone_none, Option.isSome_some, Option.isNone_some, sp15_0, T.Inst.enc_eq, *]
set_option maxHeartbeats 4000000 in
theorem ref20_Put_L0_ok {ns : (Sl Int)} {n : Int} {k : Int} {r : (Int)} (h : ref20_Put_L0 (ns, n, k) = some r) :
    O.loop 37 0 ⟨[(0, AV.pv (PV.sl ns.nil (szc 1 ns.l) (List.map intE ns.l))), (1, AV.pv (PV.int IntKind.i64 n)), (5, AV.pv (PV.int IntKind.i64 k))], [], 0⟩ = some (Ex.normal, ⟨[(0, AV.pv (PV.sl ns.nil (szc 1 ns.l) (List.map intE ns.l))), (1, AV.pv (PV.int IntKind.i64 n)), (5, AV.pv (PV.int IntKind.i64 r))], [], 0⟩) := by
  refine ref20_Put_L0.partial_correctness (fun p r => O.loop 37 0 ⟨[(0, AV.pv (PV.sl p.1.nil (szc 1 p.1.l) (List.map intE p.1.l))), (1, AV.pv (PV.int IntKind.i64 p.2.1)), (5, AV.pv (PV.int IntKind.i64 p.2.2))], [], 0⟩ = some (Ex.normal, ⟨[(0, AV.pv (PV.sl p.1.nil (szc 1 p.1.l) (List.map intE p.1.l))), (1, AV.pv (PV.int IntKind.i64 p.2.1)), (5, AV.pv (PV.int IntKind.i64 r))], [], 0⟩)) ?_ (ns, n, k) r h
  clear h r ns n k
  intro ref20_Put_L0 ih32
  rintro ⟨ns, n, k⟩ r h
  dsimp only at h ⊢
  by_cases h1 : (decide (k < (ns.l.length : Int))) = true
  rw [if_pos h1] at h
  obtain ⟨x3, h2, h⟩ := Option.bind_eq_some_iff.1 h
  have f1 := geti_nat h2 IntKind.i64
  have f2 := geti_map intE h2
  try simp only [intE, encx.down, Nat.zero_add, Nat.reduceAdd] at f2
  have f3 := geti_szcT h2 1
  by_cases h4 : (decide (x3 < n)) = true
  rw [if_pos h4] at h
  have f4 := ih32 _ _ h
  try dsimp only at f4
  try simp only [intE, encx.down, Nat.zero_add, Nat.reduceAdd] at f4
  clear h
  clear ih32
  rotate_left
  rw [if_neg h4] at h; replace h4 := Bool.eq_false_iff.2 h4
  cases h
  clear ih32
  rotate_left
  rw [if_neg h1] at h; replace h1 := Bool.eq_false_iff.2 h1
  cases h
  clear ih32
  rotate_left
  all_goals
    refine omega_L fn37 (by rfl) ?_
    simp (disch := first | assumption | rfl | exact Sure.mk (by kernel_rfl)) only [coreG.down, tab.down, ↓reduceIte, Nat.reduceLeDiff, Nat.reduceEqDiff, Nat.reduceLT, Nat.reduceAdd, Nat.reduceSub, Nat.reduceMul, reduceCtorEq, Nat.reducePow, needs, aop, aBin, intBin, aLoad, List.toList_toArray, avOf, pvOf, allPV, List.take, List.drop, List.length_cons, List.length_nil, List.length_map, aStore, AV.stor, AV.cells, List.append, aFieldAddr, List.getElem?_cons_zero, List.getElem?_cons_succ, subHeap, AV.refs, AV.ren, AV.rows, if_true, if_false, List.nil_append, List.append_nil, List.cons_append, tupled, unz, aBuiltin, lenTd, aLen, ptrRows, List.getElem?_nil, touched, List.isEmpty_nil, Option.some.injEq, aUn, pure?, PV.cells, List.replicate, List.set_cons_zero, List.set_cons_succ, aConvert, strBin, sliceOf, eq_self, AV.thaw, Blk.thaw, aSlice, aNil, isNilV, aEq, plainEq, fitAll, keyFits, aMax, maxFrom, aPart, Blk.ren, Blk.refs, List.flatMap_nil, List.flatMap_cons, List.map_cons, List.map_nil, List.drop_zero, Option.isSome_none, Option.isNone_none, Option.isSome_some, Option.isNone_some, sp37_0, intE, *]
set_option maxHeartbeats 4000000 in
theorem ref20_Put_ok {ns : (Sl Int)} {n : Int} {r : ((Sl Int))} (h : ref20_Put ns n = some r) :
    O.call 37 [AV.pv (PV.sl ns.nil (szc 1 ns.l) (List.map intE ns.l)), AV.pv (PV.int IntKind.i64 n)] [] = some (AV.pv (PV.sl r.nil (szc 1 r.l) (List.map intE r.l)), []) := by
  unfold ref20_Put at h
  obtain ⟨v2, h1, h⟩ := Option.bind_eq_some_iff.1 h
  have f1 := ref20_Put_L0_ok h1
  try simp only [intE, encx.down, Nat.zero_add, Nat.reduceAdd] at f1
  by_cases h3 : (decide (v2 < (ns.l.length : Int))) = true
  rw [if_pos h3] at h
  obtain ⟨x5, h4, h⟩ := Option.bind_eq_some_iff.1 h
  have f2 := geti_nat h4 IntKind.i64
  have f3 := geti_map intE h4
  try simp only [intE, encx.down, Nat.zero_add, Nat.reduceAdd] at f3
  have f4 := geti_szcT h4 1
  by_cases h6 : (x5 == n) = true
  rw [if_pos h6] at h
  cases h
  rotate_left
  rw [if_neg h6] at h; replace h6 := Bool.eq_false_iff.2 h6
  have f5 : (szc 1 ns.l = 1 ∨ List.map intE ns.l = []) = True := szc_or _ _ _
  obtain ⟨r8, h7, h⟩ := Option.bind_eq_some_iff.1 h
  have f6 := subT_hi h7 IntKind.i64
  have f7 := subT_len h7
  have f8 := map_subT intE h7
  have f9 := szc_subT h7 1
  have f10 : (szc 1 r8 = 1 ∨ List.map intE r8 = []) = True := szc_or _ _ _
  by_cases h9 : ¬ (roomOK (r8.length) 8 = true)
  rw [if_neg h9] at h; cases h
  replace h9 := Decidable.of_not_not h9; rw [if_pos h9] at h
  have f11 := h9
  by_cases h10 : ¬ (roomOK (r8.length + 1) 8 = true)
  rw [if_neg h10] at h; cases h
  replace h10 := Decidable.of_not_not h10; rw [if_pos h10] at h
  have f12 := h10
  obtain ⟨r12, h11, h⟩ := Option.bind_eq_some_iff.1 h
  have f14 := subF_lo h11 IntKind.i64
  have f15 := subF_le h11
  have f16 := map_subF intE h11
  have f17 := szc_subF h11 1
  have f18 : (szc 1 r12 = 1 ∨ List.map intE r12 = []) = True := szc_or _ _ _
  have f19 : List.map intE r8 ++ [[PV.int IntKind.i64 n]] = List.map intE (r8 ++ [n]) := by simp only [List.map_append, List.map_cons, List.map_nil, u8_nat, u8_wrap, intE]
  by_cases h13 : ¬ (roomOK ((r8 ++ [n]).length + r12.length) 8 = true)
  rw [if_neg h13] at h; cases h
  replace h13 := Decidable.of_not_not h13; rw [if_pos h13] at h
  have f20 := h13
  have f21 : List.map intE (r8 ++ [n]) ++ List.map intE r12 = List.map intE ((r8 ++ [n]) ++ r12) := map_app _ _ _
  try simp only [f7] at f1
  cases h
  rotate_left
  rw [if_neg h3] at h; replace h3 := Bool.eq_false_iff.2 h3
  have f22 : (szc 1 ns.l = 1 ∨ List.map intE ns.l = []) = True := szc_or _ _ _
  obtain ⟨r15, h14, h⟩ := Option.bind_eq_some_iff.1 h
  have f23 := subT_hi h14 IntKind.i64
  have f24 := subT_len h14
  have f25 := map_subT intE h14
  have f26 := szc_subT h14 1
  have f27 : (szc 1 r15 = 1 ∨ List.map intE r15 = []) = True := szc_or _ _ _
  by_cases h16 : ¬ (roomOK (r15.length) 8 = true)
  rw [if_neg h16] at h; cases h
  replace h16 := Decidable.of_not_not h16; rw [if_pos h16] at h
  have f28 := h16
  by_cases h17 : ¬ (roomOK (r15.length + 1) 8 = true)
  rw [if_neg h17] at h; cases h
  replace h17 := Decidable.of_not_not h17; rw [if_pos h17] at h
  have f29 := h17
  obtain ⟨r19, h18, h⟩ := Option.bind_eq_some_iff.1 h
  have f31 := subF_lo h18 IntKind.i64
  have f32 := subF_le h18
  have f33 := map_subF intE h18
  have f34 := szc_subF h18 1
  have f35 : (szc 1 r19 = 1 ∨ List.map intE r19 = []) = True := szc_or _ _ _
  have f36 : List.map intE r15 ++ [[PV.int IntKind.i64 n]] = List.map intE (r15 ++ [n]) := by simp only [List.map_append, List.map_cons, List.map_nil, u8_nat, u8_wrap, intE]
  by_cases h20 : ¬ (roomOK ((r15 ++ [n]).length + r19.length) 8 = true)
  rw [if_neg h20] at h; cases h
  replace h20 := Decidable.of_not_not h20; rw [if_pos h20] at h
  have f37 := h20
  have f38 : List.map intE (r15 ++ [n]) ++ List.map intE r19 = List.map intE ((r15 ++ [n]) ++ r19) := map_app _ _ _
  try simp only [f24] at f1
  cases h
  rotate_left
  all_goals
    refine omega_F rfl fn37 (by rfl) (by rfl) rfl ?_
    simp (disch := first | assumption | rfl | exact Sure.mk (by kernel_rfl)) only [coreG.down, tab.down, ↓reduceIte, Nat.reduceLeDiff, Nat.reduceEqDiff, Nat.reduceLT, Nat.reduceAdd, Nat.reduceSub, Nat.reduceMul, reduceCtorEq, Nat.reducePow, needs, aop, aBin, intBin, aLoad, List.toList_toArray, avOf, pvOf, allPV, List.take, List.drop, List.length_cons, List.length_nil, List.length_map, aStore, AV.stor, AV.cells, List.append, aFieldAddr, List.getElem?_cons_zero, List.getElem?_cons_succ, subHeap, AV.refs, AV.ren, AV.rows, if_true, if_false, List.nil_append, List.append_nil, List.cons_append, tupled, unz, aBuiltin, lenTd, aLen, ptrRows, List.getElem?_nil, touched, List.isEmpty_nil, Option.some.injEq, aUn, pure?, PV.cells, List.replicate, List.set_cons_zero, List.set_cons_succ, aConvert, strBin, sliceOf, eq_self, AV.thaw, Blk.thaw, aSlice, aNil, isNilV, aEq, plainEq, fitAll, keyFits, aMax, maxFrom, aPart, Blk.ren, Blk.refs, List.flatMap_nil, List.flatMap_cons, List.map_cons, List.map_nil, List.drop_zero, Option.isSome_none, Option.isNone_none, Option.isSome_some, Option.isNone_some, sp37_0, intE, *]
set_option maxHeartbeats 4000000 in
theorem ref26_Numbers_L2_ok {is : (Sl T.Inst)} {ns : (Sl Int)} {zero : Bool} {i : Int} {k : Int} {r : ((Sl Int) × Bool)} (h : ref26_Numbers_L2 (is, ns, zero, i, k) = some r) :
    O.loop 20 2 ⟨[(0, AV.pv (PV.sl is.nil (szc 3 is.l) (List.map T.Inst.enc is.l))), (3, AV.pv (PV.sl ns.nil (szc 1 ns.l) (List.map intE ns.l))), (4, AV.pv (PV.bool zero)), (5, AV.pv (PV.int IntKind.i64 i)), (6, AV.pv (PV.int IntKind.i64 k))], [], 0⟩ = some (Ex.normal, ⟨[(0, AV.pv (PV.sl is.nil (szc 3 is.l) (List.map T.Inst.enc is.l))), (3, AV.pv (PV.sl r.1.nil (szc 1 r.1.l) (List.map intE r.1.l))), (4, AV.pv (PV.bool r.2)), (5, AV.pv (PV.int IntKind.i64 i))], [], 0⟩) := by
  refine ref26_Numbers_L2.partial_correctness (fun p r => O.loop 20 2 ⟨[(0, AV.pv (PV.sl p.1.nil (szc 3 p.1.l) (List.map T.Inst.enc p.1.l))), (3, AV.pv (PV.sl p.2.1.nil (szc 1 p.2.1.l) (List.map intE p.2.1.l))), (4, AV.pv (PV.bool p.2.2.1)), (5, AV.pv (PV.int IntKind.i64 p.2.2.2.1)), (6, AV.pv (PV.int IntKind.i64 p.2.2.2.2))], [], 0⟩ = some (Ex.normal, ⟨[(0, AV.pv (PV.sl p.1.nil (szc 3 p.1.l) (List.map T.Inst.enc p.1.l))), (3, AV.pv (PV.sl r.1.nil (szc 1 r.1.l) (List.map intE r.1.l))), (4, AV.pv (PV.bool r.2)), (5, AV.pv (PV.int IntKind.i64 p.2.2.2.1))], [], 0⟩)) ?_ (is, ns, zero, i, k) r h
  clear h r is ns zero i k
  intro ref26_Numbers_L2 ih30
  rintro ⟨is, ns, zero, i, k⟩ r h
  dsimp only at h ⊢
  obtain ⟨x2, h1, h⟩ := Option.bind_eq_some_iff.1 h
  have f1 := geti_nat h1 IntKind.i64
  have f2 := geti_map T.Inst.enc h1
  try simp only [T.Inst.enc_eq, encx.down, Nat.zero_add, Nat.reduceAdd] at f2
  have f3 := geti_szcT h1 3
  by_cases h3 : (decide (k < (x2.stops.l.length : Int))) = true
  rw [if_pos h3] at h
  obtain ⟨x5, h4, h⟩ := Option.bind_eq_some_iff.1 h
  have f4 := geti_nat h4 IntKind.i64
  have f5 := geti_map T.Stop.enc h4
  try simp only [T.Stop.enc_eq, encx.down, Nat.zero_add, Nat.reduceAdd] at f5
  have f6 := geti_szcT h4 18
  by_cases h6 : (!x5.turned) = true
  rw [if_pos h6] at h
  by_cases h7 : (x5.n == (0 : Int)) = true
  rw [if_pos h7] at h
  by_cases h8 : (x5.n != (0 : Int)) = true
  rw [if_pos h8] at h
  obtain ⟨v10, h9, h⟩ := Option.bind_eq_some_iff.1 h
  have f7 := ref20_Put_ok h9
  try simp only [intE, encx.down, Nat.zero_add, Nat.reduceAdd] at f7
  have f8 := ih30 _ _ h
  try dsimp only at f8
  try simp only [T.Inst.enc_eq, intE, encx.down, Nat.zero_add, Nat.reduceAdd] at f8
  clear h
  clear ih30
  rotate_left
  rw [if_neg h8] at h; replace h8 := Bool.eq_false_iff.2 h8
  have f9 := ih30 _ _ h
  try dsimp only at f9
  try simp only [T.Inst.enc_eq, intE, encx.down, Nat.zero_add, Nat.reduceAdd] at f9
  clear h
  clear ih30
  rotate_left
  rw [if_neg h7] at h; replace h7 := Bool.eq_false_iff.2 h7
  by_cases h11 : (x5.n != (0 : Int)) = true
  rw [if_pos h11] at h
  obtain ⟨v13, h12, h⟩ := Option.bind_eq_some_iff.1 h
  have f10 := ref20_Put_ok h12
  try simp only [intE, encx.down, Nat.zero_add, Nat.reduceAdd] at f10
  have f11 := ih30 _ _ h
  try dsimp only at f11
  try simp only [T.Inst.enc_eq, intE, encx.down, Nat.zero_add, Nat.reduceAdd] at f11
  clear h
  clear ih30
  rotate_left
  rw [if_neg h11] at h; replace h11 := Bool.eq_false_iff.2 h11
  have f12 := ih30 _ _ h
  try dsimp only at f12
  try simp only [T.Inst.enc_eq, intE, encx.down, Nat.zero_add, Nat.reduceAdd] at f12
  clear h
  clear ih30
  rotate_left
  rw [if_neg h6] at h; replace h6 := Bool.eq_false_iff.2 h6
  have f13 := ih30 _ _ h
  try dsimp only at f13
  try simp only [T.Inst.enc_eq, intE, encx.down, Nat.zero_add, Nat.reduceAdd] at f13
  clear h
  clear ih30
  rotate_left
  rw [if_neg h3] at h; replace h3 := Bool.eq_false_iff.2 h3
  cases h
  clear ih30
  rotate_left
  all_goals
    refine omega_L fn20 (by rfl) ?_
    simp (disch := first | assumption | rfl | exact Sure.mk (by kernel_rfl)) only [coreG.down, tab.down, ↓reduceIte, Nat.reduceLeDiff, Nat.reduceEqDiff, Nat.reduceLT, Nat.reduceAdd, Nat.reduceSub, Nat.reduceMul, reduceCtorEq, Nat.reducePow, needs, aop, aBin, intBin, aLoad, List.toList_toArray, avOf, pvOf, allPV, List.take, List.drop, List.length_cons, List.length_nil, List.length_map, aStore, AV.stor, AV.cells, List.append, aFieldAddr, List.getElem?_cons_zero, List.getElem?_cons_succ, subHeap, AV.refs, AV.ren, AV.rows, if_true, if_false, List.nil_append, List.append_nil, List.cons_append, tupled, unz, aBuiltin, lenTd, aLen, ptrRows, List.getElem?_nil, touched, List.isEmpty_nil, Option.some.injEq, aUn, pure?, PV.cells, List.replicate, List.set_cons_zero, List.set_cons_succ, aConvert, strBin, sliceOf, eq_self, AV.thaw, Blk.thaw, aSlice, aNil, isNilV, aEq, plainEq, fitAll, keyFits, aMax, maxFrom, aPart, Blk.ren, Blk.refs, List.flatMap_nil, List.flatMap_cons, List.map_cons, List.map_nil, List.drop_zero, Option.isSome_none, Option.isNone_none, Option.isSome_some, Option.isNone_some, sp20_0, sp20_2, T.Inst.enc_eq, intE, *]
set_option maxHeartbeats 4000000 in
theorem ref26_Numbers_L0_ok {is : (Sl T.Inst)} {ns : (Sl Int)} {zero : Bool} {i : Int} {r : ((Sl Int) × Bool)} (h : ref26_Numbers_L0 (is, ns, zero, i) = some r) :
    O.loop 20 0 ⟨[(0, AV.pv (PV.sl is.nil (szc 3 is.l) (List.map T.Inst.enc is.l))), (3, AV.pv (PV.sl ns.nil (szc 1 ns.l) (List.map intE ns.l))), (4, AV.pv (PV.bool zero)), (5, AV.pv (PV.int IntKind.i64 i))], [], 0⟩ = some (Ex.normal, ⟨[(3, AV.pv (PV.sl r.1.nil (szc 1 r.1.l) (List.map intE r.1.l))), (4, AV.pv (PV.bool r.2))], [], 0⟩) := by
  refine ref26_Numbers_L0.partial_correctness (fun p r => O.loop 20 0 ⟨[(0, AV.pv (PV.sl p.1.nil (szc 3 p.1.l) (List.map T.Inst.enc p.1.l))), (3, AV.pv (PV.sl p.2.1.nil (szc 1 p.2.1.l) (List.map intE p.2.1.l))), (4, AV.pv (PV.bool p.2.2.1)), (5, AV.pv (PV.int IntKind.i64 p.2.2.2))], [], 0⟩ = some (Ex.normal, ⟨[(3, AV.pv (PV.sl r.1.nil (szc 1 r.1.l) (List.map intE r.1.l))), (4, AV.pv (PV.bool r.2))], [], 0⟩)) ?_ (is, ns, zero, i) r h
  clear h r is ns zero i
  intro ref26_Numbers_L0 ih29
  rintro ⟨is, ns, zero, i⟩ r h
  dsimp only at h ⊢
  by_cases h1 : (decide (i < (is.l.length : Int))) = true
  rw [if_pos h1] at h
  obtain ⟨v3, h2, h⟩ := Option.bind_eq_some_iff.1 h
  have f1 := ref26_Numbers_L2_ok h2
  try simp only [T.Inst.enc_eq, intE, encx.down, Nat.zero_add, Nat.reduceAdd] at f1
  have f2 := ih29 _ _ h
  try dsimp only at f2
  try simp only [T.Inst.enc_eq, intE, encx.down, Nat.zero_add, Nat.reduceAdd] at f2
  clear h
  clear ih29
  rotate_left
  rw [if_neg h1] at h; replace h1 := Bool.eq_false_iff.2 h1
  cases h
  clear ih29
  rotate_left
  all_goals
    refine omega_L fn20 (by rfl) ?_
    simp (disch := first | assumption | rfl | exact Sure.mk (by kernel_rfl)) only [coreG.down, tab.down, ↓reduceIte, Nat.reduceLeDiff, Nat.reduceEqDiff, Nat.reduceLT, Nat.reduceAdd, Nat.reduceSub, Nat.reduceMul, reduceCtorEq, Nat.reducePow, needs, aop, aBin, intBin, aLoad, List.toList_toArray, avOf, pvOf, allPV, List.take, List.drop, List.length_cons, List.length_nil, List.length_map, aStore, AV.stor, AV.cells, List.append, aFieldAddr, List.getElem?_cons_zero, List.getElem?_cons_succ, subHeap, AV.refs, AV.ren, AV.rows, if_true, if_false, List.nil_append, List.append_nil, List.cons_append, tupled, unz, aBuiltin, lenTd, aLen, ptrRows, List.getElem?_nil, touched, List.isEmpty_nil, Option.some.injEq, aUn, pure?, PV.cells, List.replicate, List.set_cons_zero, List.set_cons_succ, aConvert, strBin, sliceOf, eq_self, AV.thaw, Blk.thaw, aSlice, aNil, isNilV, aEq, plainEq, fitAll, keyFits, aMax, maxFrom, aPart, Blk.ren, Blk.refs, List.flatMap_nil, List.flatMap_cons, List.map_cons, List.map_nil, List.drop_zero, Option.isSome_none, Option.isNone_none, Option.isSome_some, Option.isNone_some, sp20_0, sp20_2, T.Inst.enc_eq, intE, *]
set_option maxHeartbeats 4000000 in
theorem ref26_Numbers_ok {is : (Sl T.Inst)} {r : ((Sl Int))} (h : ref26_Numbers is = some r) :
    O.call 20 [AV.pv (PV.sl is.nil (szc 3 is.l) (List.map T.Inst.enc is.l))] [] = some (AV.pv (PV.sl r.nil (szc 1 r.l) (List.map intE r.l)), []) := by
  unfold ref26_Numbers at h
  obtain ⟨v2, h1, h⟩ := Option.bind_eq_some_iff.1 h
  have f1 := ref26_Numbers_L0_ok h1
  try simp only [T.Inst.enc_eq, intE, encx.down, Nat.zero_add, Nat.reduceAdd] at f1
  by_cases h3 : v2.2 = true
  rw [if_pos h3] at h
  have f2 : (szc 1 v2.1.l = 1 ∨ List.map intE v2.1.l = []) = True := szc_or _ _ _
  by_cases h4 : ¬ (roomOK (v2.1.l.length) 8 = true)
  rw [if_neg h4] at h; cases h
  replace h4 := Decidable.of_not_not h4; rw [if_pos h4] at h
  have f3 := h4
  by_cases h5 : ¬ (roomOK (v2.1.l.length + 1) 8 = true)
  rw [if_neg h5] at h; cases h
  replace h5 := Decidable.of_not_not h5; rw [if_pos h5] at h
  have f4 := h5
  have f6 : List.map intE v2.1.l ++ [[PV.int IntKind.i64 (0 : Int)]] = List.map intE (v2.1.l ++ [(0 : Int)]) := by simp only [List.map_append, List.map_cons, List.map_nil, u8_nat, u8_wrap, intE]
  try simp only [h3] at f1
  cases h
  rotate_left
  rw [if_neg h3] at h; replace h3 := Bool.eq_false_iff.2 h3
  try simp only [h3] at f1
  cases h
  rotate_left
  all_goals
    refine omega_F rfl fn20 (by rfl) (by rfl) rfl ?_
    simp (disch := first | assumption | rfl | exact Sure.mk (by kernel_rfl)) only [coreG.down, tab.down, ↓reduceIte, Nat.reduceLeDiff, Nat.reduceEqDiff, Nat.reduceLT, Nat.reduceAdd, Nat.reduceSub, Nat.reduceMul, reduceCtorEq, Nat.reducePow, needs, aop, aBin, intBin, aLoad, List.toList_toArray, avOf, pvOf, allPV, List.take, List.drop, List.length_cons, List.length_nil, List.length_map, aStore, AV.stor, AV.cells, List.append, aFieldAddr, List.getElem?_cons_zero, List.getElem?_cons_succ, subHeap, AV.refs, AV.ren, AV.rows, if_true, if_false, List.nil_append, List.append_nil, List.cons_append, tupled, unz, aBuiltin, lenTd, aLen, ptrRows, List.getElem?_nil, touched, List.isEmpty_nil, Option.some.injEq, aUn, pure?, PV.cells, List.replicate, List.set_cons_zero, List.set_cons_succ, aConvert, strBin, sliceOf, eq_self, AV.thaw, Blk.thaw, aSlice, aNil, isNilV, aEq, plainEq, fitAll, keyFits, aMax, maxFrom, aPart, Blk.ren, Blk.refs, List.flatMap_nil, List.flatMap_cons, List.map_cons, List.map_nil, List.drop_zero, Option.isSome_none, Option.isNone_none, Option.isSome_some, Option.isNone_some, sp20_0, sp20_2, T.Inst.enc_eq, intE, *]
set_option maxHeartbeats 4000000 in
theorem ref26_above_ok {a : Int} {b : Int} {r : (Bool)} (h : ref26_above a b = some r) :
    O.call 41 [AV.pv (PV.int IntKind.i64 a), AV.pv (PV.int IntKind.i64 b)] [] = some (AV.pv (PV.bool r), []) := by
  unfold ref26_above at h
  by_cases h1 : (b != (0 : Int)) = true
  rw [if_pos h1] at h
  by_cases h2 : (a == (0 : Int)) = true
  rw [if_pos h2] at h
  cases h
  rotate_left
  rw [if_neg h2] at h; replace h2 := Bool.eq_false_iff.2 h2
  cases h
  rotate_left
  rw [if_neg h1] at h; replace h1 := Bool.eq_false_iff.2 h1
  cases h
  rotate_left
  all_goals
    refine omega_F rfl fn41 (by rfl) (by rfl) rfl ?_
    simp (disch := first | assumption | rfl | exact Sure.mk (by kernel_rfl)) only [coreG.down, tab.down, ↓reduceIte, Nat.reduceLeDiff, Nat.reduceEqDiff, Nat.reduceLT, Nat.reduceAdd, Nat.reduceSub, Nat.reduceMul, reduceCtorEq, Nat.reducePow, needs, aop, aBin, intBin, aLoad, List.toList_toArray, avOf, pvOf, allPV, List.take, List.drop, List.length_cons, List.length_nil, List.length_map, aStore, AV.stor, AV.cells, List.append, aFieldAddr, List.getElem?_cons_zero, List.getElem?_cons_succ, subHeap, AV.refs, AV.ren, AV.rows, if_true, if_false, List.nil_append, List.append_nil, List.cons_append, tupled, unz, aBuiltin, lenTd, aLen, ptrRows, List.getElem?_nil, touched, List.isEmpty_nil, Option.some.injEq, aUn, pure?, PV.cells, List.replicate, List.set_cons_zero, List.set_cons_succ, aConvert, strBin, sliceOf, eq_self, AV.thaw, Blk.thaw, aSlice, aNil, isNilV, aEq, plainEq, fitAll, keyFits, aMax, maxFrom, aPart, Blk.ren, Blk.refs, List.flatMap_nil, List.flatMap_cons, List.map_cons, List.map_nil, List.drop_zero, Option.isSome_none, Option.isNone_none, Option.isSome_some, Option.isNone_some, *]
def ref26_Next_L0_enc : ((Int × Bool) ⊕ (Unit)) → Ex × St
  | .inl y => (Ex.ret, ⟨[(4, AV.pv (PV.int IntKind.i64 y.1)), (5, AV.pv (PV.bool y.2))], [], 0⟩)
  | .inr y => (Ex.normal, ⟨[(4, AV.undef), (5, AV.undef)], [], 0⟩)
set_option maxHeartbeats 4000000 in
theorem ref26_Next_L0_ok {cur : Int} {ns : (Sl Int)} {i : Int} {r : ((Int × Bool) ⊕ (Unit))} (h : ref26_Next_L0 (cur, ns, i) = some r) :
    O.loop 16 0 ⟨[(0, AV.pv (PV.int IntKind.i64 cur)), (6, AV.pv (PV.sl ns.nil (szc 1 ns.l) (List.map intE ns.l))), (7, AV.pv (PV.int IntKind.i64 i))], [], 0⟩ = some (ref26_Next_L0_enc r) := by
  refine ref26_Next_L0.partial_correctness (fun p r => O.loop 16 0 ⟨[(0, AV.pv (PV.int IntKind.i64 p.1)), (6, AV.pv (PV.sl p.2.1.nil (szc 1 p.2.1.l) (List.map intE p.2.1.l))), (7, AV.pv (PV.int IntKind.i64 p.2.2))], [], 0⟩ = some (ref26_Next_L0_enc r)) ?_ (cur, ns, i) r h
  clear h r cur ns i
  intro ref26_Next_L0 ih33
  rintro ⟨cur, ns, i⟩ r h
  dsimp only at h ⊢
  by_cases h1 : (decide (i < (ns.l.length : Int))) = true
  rw [if_pos h1] at h
  obtain ⟨x3, h2, h⟩ := Option.bind_eq_some_iff.1 h
  have f1 := geti_nat h2 IntKind.i64
  have f2 := geti_map intE h2
  try simp only [intE, encx.down, Nat.zero_add, Nat.reduceAdd] at f2
  have f3 := geti_szcT h2 1
  obtain ⟨v5, h4, h⟩ := Option.bind_eq_some_iff.1 h
  have f4 := ref26_above_ok h4
  try simp only [encx.down, Nat.zero_add, Nat.reduceAdd] at f4
  by_cases h6 : v5 = true
  rw [if_pos h6] at h
  try simp only [h6] at f4
  cases h
  show _ = some (ref26_Next_L0_enc (.inl _))
  dsimp only [ref26_Next_L0_enc]
  clear ih33
  rotate_left
  rw [if_neg h6] at h; replace h6 := Bool.eq_false_iff.2 h6
  try simp only [h6] at f4
  have f5 := ih33 _ _ h
  try dsimp only at f5
  try simp only [intE, encx.down, Nat.zero_add, Nat.reduceAdd] at f5
  clear h
  try simp only [h6] at f5
  clear ih33
  rotate_left
  rw [if_neg h1] at h; replace h1 := Bool.eq_false_iff.2 h1
  cases h
  show _ = some (ref26_Next_L0_enc (.inr _))
  dsimp only [ref26_Next_L0_enc]
  clear ih33
  rotate_left
  all_goals
    refine omega_L fn16 (by rfl) ?_
    simp (disch := first | assumption | rfl | exact Sure.mk (by kernel_rfl)) only [coreG.down, tab.down, ↓reduceIte, Nat.reduceLeDiff, Nat.reduceEqDiff, Nat.reduceLT, Nat.reduceAdd, Nat.reduceSub, Nat.reduceMul, reduceCtorEq, Nat.reducePow, needs, aop, aBin, intBin, aLoad, List.toList_toArray, avOf, pvOf, allPV, List.take, List.drop, List.length_cons, List.length_nil, List.length_map, aStore, AV.stor, AV.cells, List.append, aFieldAddr, List.getElem?_cons_zero, List.getElem?_cons_succ, subHeap, AV.refs, AV.ren, AV.rows, if_true, if_false, List.nil_append, List.append_nil, List.cons_append, tupled, unz, aBuiltin, lenTd, aLen, ptrRows, List.getElem?_nil, touched, List.isEmpty_nil, Option.some.injEq, aUn, pure?, PV.cells, List.replicate, List.set_cons_zero, List.set_cons_succ, aConvert, strBin, sliceOf, eq_self, AV.thaw, Blk.thaw, aSlice, aNil, isNilV, aEq, plainEq, fitAll, keyFits, aMax, maxFrom, aPart, Blk.ren, Blk.refs, List.flatMap_nil, List.flatMap_cons, List.map_cons, List.map_nil, List.drop_zero, Option.isSome_none, Option.isNone_none, Option.isSome_some, Option.isNone_some, sp16_0, intE, *]
set_option maxHeartbeats 4000000 in
theorem ref26_Next_ok {cur : Int} {is : (Sl T.Inst)} {r : (Int × Bool)} (h : ref26_Next cur is = some r) :
    O.call 16 [AV.pv (PV.int IntKind.i64 cur), AV.pv (PV.sl is.nil (szc 3 is.l) (List.map T.Inst.enc is.l))] [] = some (AV.tup [AV.pv (PV.int IntKind.i64 r.1), AV.pv (PV.bool r.2)], []) := by
  unfold ref26_Next at h
  obtain ⟨v2, h1, h⟩ := Option.bind_eq_some_iff.1 h
  have f1 := ref26_Numbers_ok h1
  try simp only [T.Inst.enc_eq, intE, encx.down, Nat.zero_add, Nat.reduceAdd] at f1
  obtain ⟨v4, h3, h⟩ := Option.bind_eq_some_iff.1 h
  have f2 := ref26_Next_L0_ok h3
  try simp only [intE, encx.down, Nat.zero_add, Nat.reduceAdd] at f2
  rcases v4 with y5 | y6
  dsimp only at h
  simp only [ref26_Next_L0_enc, intE, encx.down, Nat.zero_add, Nat.reduceAdd] at f2
  cases h
  rotate_left
  dsimp only at h
  simp only [ref26_Next_L0_enc, intE, encx.down, Nat.zero_add, Nat.reduceAdd] at f2
  cases h
  rotate_left
  all_goals
    refine omega_F rfl fn16 (by rfl) (by rfl) rfl ?_
    simp (disch := first | assumption | rfl | exact Sure.mk (by kernel_rfl)) only [coreG.down, tab.down, ↓reduceIte, Nat.reduceLeDiff, Nat.reduceEqDiff, Nat.reduceLT, Nat.reduceAdd, Nat.reduceSub, Nat.reduceMul, reduceCtorEq, Nat.reducePow, needs, aop, aBin, intBin, aLoad, List.toList_toArray, avOf, pvOf, allPV, List.take, List.drop, List.length_cons, List.length_nil, List.length_map, aStore, AV.stor, AV.cells, List.append, aFieldAddr, List.getElem?_cons_zero, List.getElem?_cons_succ, subHeap, AV.refs, AV.ren, AV.rows, if_true, if_false, List.nil_append, List.append_nil, List.cons_append, tupled, unz, aBuiltin, lenTd, aLen, ptrRows, List.getElem?_nil, touched, List.isEmpty_nil, Option.some.injEq, aUn, pure?, PV.cells, List.replicate, List.set_cons_zero, List.set_cons_succ, aConvert, strBin, sliceOf, eq_self, AV.thaw, Blk.thaw, aSlice, aNil, isNilV, aEq, plainEq, fitAll, keyFits, aMax, maxFrom, aPart, Blk.ren, Blk.refs, List.flatMap_nil, List.flatMap_cons, List.map_cons, List.map_nil, List.drop_zero, Option.isSome_none, Option.isNone_none, Option.isSome_some, Option.isNone_some, sp16_0, T.Inst.enc_eq, *]
set_option maxHeartbeats 4000000 in
theorem slices_Reverse_Lint_L0_ok {i : Int} {j : Int} {s : (List Int)} {r : ((List Int))} (h : slices_Reverse_Lint_L0 (i, j, s) = some r) :
    O.loop 42 0 ⟨[(0, AV.row 0 s.length 0 s.length), (2, AV.pv (PV.int IntKind.i64 i)), (3, AV.pv (PV.int IntKind.i64 j))], [(0, Blk.row s.isEmpty (szc 1 s) (List.map intE s))], 1⟩ = some (Ex.normal, ⟨[], [(0, Blk.row r.isEmpty (szc 1 r) (List.map intE r))], 1⟩) := by
  refine slices_Reverse_Lint_L0.partial_correctness (fun p r => O.loop 42 0 ⟨[(0, AV.row 0 p.2.2.length 0 p.2.2.length), (2, AV.pv (PV.int IntKind.i64 p.1)), (3, AV.pv (PV.int IntKind.i64 p.2.1))], [(0, Blk.row p.2.2.isEmpty (szc 1 p.2.2) (List.map intE p.2.2))], 1⟩ = some (Ex.normal, ⟨[], [(0, Blk.row r.isEmpty (szc 1 r) (List.map intE r))], 1⟩)) ?_ (i, j, s) r h
  clear h r i j s
  intro slices_Reverse_Lint_L0 ih37
  rintro ⟨i, j, s⟩ r h
  dsimp only at h ⊢
  by_cases h1 : (decide (i < j)) = true
  rw [if_pos h1] at h
  obtain ⟨x3, h2, h⟩ := Option.bind_eq_some_iff.1 h
  have f1 := geti_nat h2 IntKind.i64
  have f2 := geti_map intE h2
  try simp only [intE, encx.down, Nat.zero_add, Nat.reduceAdd] at f2
  have f3 := geti_lt h2
  have f4 := geti_ne h2
  have f5 := geti_szc h2 1
  obtain ⟨x5, h4, h⟩ := Option.bind_eq_some_iff.1 h
  have f6 := geti_nat h4 IntKind.i64
  have f7 := geti_map intE h4
  try simp only [intE, encx.down, Nat.zero_add, Nat.reduceAdd] at f7
  have f8 := geti_lt h4
  have f9 := map_set intE s i.toNat x3
  try simp only [intE, encx.down, Nat.zero_add, Nat.reduceAdd] at f9
  obtain ⟨x7, h6, h⟩ := Option.bind_eq_some_iff.1 h
  have f10 := geti_nat h6 IntKind.i64
  have f11 := geti_map intE h6
  try simp only [intE, encx.down, Nat.zero_add, Nat.reduceAdd] at f11
  have f12 := geti_lt h6
  have f13 := map_set intE (s.set i.toNat x3) j.toNat x5
  try simp only [intE, encx.down, Nat.zero_add, Nat.reduceAdd] at f13
  have f14 := ih37 _ _ h
  try dsimp only at f14
  try simp only [intE, encx.down, Nat.zero_add, Nat.reduceAdd, f4, f5] at f14
  clear h
  clear ih37
  rotate_left
  rw [if_neg h1] at h; replace h1 := Bool.eq_false_iff.2 h1
  cases h
  clear ih37
  rotate_left
  all_goals
    refine omega_L fn42 (by rfl) ?_
    simp (disch := first | assumption | rfl | exact Sure.mk (by kernel_rfl)) only [coreG.down, tab.down, ↓reduceIte, Nat.reduceLeDiff, Nat.reduceEqDiff, Nat.reduceLT, Nat.reduceAdd, Nat.reduceSub, Nat.reduceMul, reduceCtorEq, Nat.reducePow, needs, aop, aBin, intBin, aLoad, List.toList_toArray, avOf, pvOf, allPV, List.take, List.drop, List.length_cons, List.length_nil, List.length_map, aStore, AV.stor, AV.cells, List.append, aFieldAddr, List.getElem?_cons_zero, List.getElem?_cons_succ, subHeap, AV.refs, AV.ren, AV.rows, if_true, if_false, List.nil_append, List.append_nil, List.cons_append, tupled, unz, aBuiltin, lenTd, aLen, ptrRows, List.getElem?_nil, touched, List.isEmpty_nil, Option.some.injEq, aUn, pure?, PV.cells, List.replicate, List.set_cons_zero, List.set_cons_succ, aConvert, strBin, sliceOf, eq_self, AV.thaw, Blk.thaw, aSlice, aNil, isNilV, aEq, plainEq, fitAll, keyFits, aMax, maxFrom, aPart, Blk.ren, Blk.refs, List.flatMap_nil, List.flatMap_cons, List.map_cons, List.map_nil, List.drop_zero, Option.isSome_none, Option.isNone_none, Option.isSome_some, Option.isNone_some, sp42_0, intE, *]
set_option maxHeartbeats 4000000 in
theorem slices_Reverse_Lint_ok {r_ : (List Int)} {r : ((List Int))} (h : slices_Reverse_Lint r_ = some r) :
    O.call 42 [AV.row 0 r_.length 0 r_.length] [(0, Blk.row r_.isEmpty (szc 1 r_) (List.map intE r_))] = some (AV.tup [], [(0, Blk.row r.isEmpty (szc 1 r) (List.map intE r))]) := by
  unfold slices_Reverse_Lint at h
  obtain ⟨v2, h1, h⟩ := Option.bind_eq_some_iff.1 h
  have f1 := slices_Reverse_Lint_L0_ok h1
  try simp only [intE, encx.down, Nat.zero_add, Nat.reduceAdd] at f1
  cases h
  rotate_left
  all_goals
    refine omega_F rfl fn42 (by rfl) (by rfl) rfl ?_
    simp (disch := first | assumption | rfl | exact Sure.mk (by kernel_rfl)) only [coreG.down, tab.down, ↓reduceIte, Nat.reduceLeDiff, Nat.reduceEqDiff, Nat.reduceLT, Nat.reduceAdd, Nat.reduceSub, Nat.reduceMul, reduceCtorEq, Nat.reducePow, needs, aop, aBin, intBin, aLoad, List.toList_toArray, avOf, pvOf, allPV, List.take, List.drop, List.length_cons, List.length_nil, List.length_map, aStore, AV.stor, AV.cells, List.append, aFieldAddr, List.getElem?_cons_zero, List.getElem?_cons_succ, subHeap, AV.refs, AV.ren, AV.rows, if_true, if_false, List.nil_append, List.append_nil, List.cons_append, tupled, unz, aBuiltin, lenTd, aLen, ptrRows, List.getElem?_nil, touched, List.isEmpty_nil, Option.some.injEq, aUn, pure?, PV.cells, List.replicate, List.set_cons_zero, List.set_cons_succ, aConvert, strBin, sliceOf, eq_self, AV.thaw, Blk.thaw, aSlice, aNil, isNilV, aEq, plainEq, fitAll, keyFits, aMax, maxFrom, aPart, Blk.ren, Blk.refs, List.flatMap_nil, List.flatMap_cons, List.map_cons, List.map_nil, List.drop_zero, Option.isSome_none, Option.isNone_none, Option.isSome_some, Option.isNone_some, sp42_0, intE, *]
def stops_Prev_L0_enc (t13 : (List Int)) : ((Int × Bool) ⊕ (Unit)) → Ex × St
  | .inl y => (Ex.ret, ⟨[(4, AV.pv (PV.int IntKind.i64 y.1)), (5, AV.pv (PV.bool y.2))], [(0, Blk.row t13.isEmpty (szc 1 t13) (List.map intE t13))], 1⟩)
  | .inr y => (Ex.normal, ⟨[(4, AV.undef), (5, AV.undef)], [(0, Blk.row t13.isEmpty (szc 1 t13) (List.map intE t13))], 1⟩)
set_option maxHeartbeats 4000000 in
theorem stops_Prev_L0_ok {cur : Int} {t14 : Int} {t15 : Int} {t13 : (List Int)} {r : ((Int × Bool) ⊕ (Unit))} (h : stops_Prev_L0 (cur, t14, t15, t13) = some r) :
    O.loop 17 0 ⟨[(0, AV.pv (PV.int IntKind.i64 cur)), (13, AV.row 0 t13.length 0 t13.length), (14, AV.pv (PV.int IntKind.i64 t14)), (15, AV.pv (PV.int IntKind.i64 t15))], [(0, Blk.row t13.isEmpty (szc 1 t13) (List.map intE t13))], 1⟩ = some (stops_Prev_L0_enc t13 r) := by
  refine stops_Prev_L0.partial_correctness (fun p r => O.loop 17 0 ⟨[(0, AV.pv (PV.int IntKind.i64 p.1)), (13, AV.row 0 p.2.2.2.length 0 p.2.2.2.length), (14, AV.pv (PV.int IntKind.i64 p.2.1)), (15, AV.pv (PV.int IntKind.i64 p.2.2.1))], [(0, Blk.row p.2.2.2.isEmpty (szc 1 p.2.2.2) (List.map intE p.2.2.2))], 1⟩ = some (stops_Prev_L0_enc p.2.2.2 r)) ?_ (cur, t14, t15, t13) r h
  clear h r cur t14 t15 t13
  intro stops_Prev_L0 ih38
  rintro ⟨cur, t14, t15, t13⟩ r h
  dsimp only at h ⊢
  by_cases h1 : (decide (t15 < t14)) = true
  rw [if_pos h1] at h
  obtain ⟨x3, h2, h⟩ := Option.bind_eq_some_iff.1 h
  have f1 := geti_nat h2 IntKind.i64
  have f2 := geti_map intE h2
  try simp only [intE, encx.down, Nat.zero_add, Nat.reduceAdd] at f2
  have f3 := geti_lt h2
  have f4 := geti_ne h2
  have f5 := geti_szc h2 1
  obtain ⟨v5, h4, h⟩ := Option.bind_eq_some_iff.1 h
  have f6 := stops_above_ok h4
  try simp only [encx.down, Nat.zero_add, Nat.reduceAdd, f4, f5] at f6
  by_cases h6 : v5 = true
  rw [if_pos h6] at h
  try simp only [h6, f4, f5] at f6
  cases h
  show _ = some (stops_Prev_L0_enc _ (.inl _))
  dsimp only [stops_Prev_L0_enc]
  clear ih38
  rotate_left
  rw [if_neg h6] at h; replace h6 := Bool.eq_false_iff.2 h6
  try simp only [h6, f4, f5] at f6
  have f7 := ih38 _ _ h
  try dsimp only at f7
  try simp only [intE, encx.down, Nat.zero_add, Nat.reduceAdd, f4, f5] at f7
  clear h
  try simp only [h6, f4, f5] at f7
  clear ih38
  rotate_left
  rw [if_neg h1] at h; replace h1 := Bool.eq_false_iff.2 h1
  cases h
  show _ = some (stops_Prev_L0_enc _ (.inr _))
  dsimp only [stops_Prev_L0_enc]
  clear ih38
  rotate_left
  all_goals
    refine omega_L fn17 (by rfl) ?_
    simp (disch := first | assumption | rfl | exact Sure.mk (by kernel_rfl)) only [coreG.down, tab.down, ↓reduceIte, Nat.reduceLeDiff, Nat.reduceEqDiff, Nat.reduceLT, Nat.reduceAdd, Nat.reduceSub, Nat.reduceMul, reduceCtorEq, Nat.reducePow, needs, aop, aBin, intBin, aLoad, List.toList_toArray, avOf, pvOf, allPV, List.take, List.drop, List.length_cons, List.length_nil, List.length_map, aStore, AV.stor, AV.cells, List.append, aFieldAddr, List.getElem?_cons_zero, List.getElem?_cons_succ, subHeap, AV.refs, AV.ren, AV.rows, if_true, if_false, List.nil_append, List.append_nil, List.cons_append, tupled, unz, aBuiltin, lenTd, aLen, ptrRows, List.getElem?_nil, touched, List.isEmpty_nil, Option.some.injEq, aUn, pure?, PV.cells, List.replicate, List.set_cons_zero, List.set_cons_succ, aConvert, strBin, sliceOf, eq_self, AV.thaw, Blk.thaw, aSlice, aNil, isNilV, aEq, plainEq, fitAll, keyFits, aMax, maxFrom, aPart, Blk.ren, Blk.refs, List.flatMap_nil, List.flatMap_cons, List.map_cons, List.map_nil, List.drop_zero, Option.isSome_none, Option.isNone_none, Option.isSome_some, Option.isNone_some, sp17_0, intE, *]
set_option maxHeartbeats 4000000 in
theorem stops_Prev_ok {cur : Int} {is : (Sl T.Inst)} {r : (Int × Bool)} (h : stops_Prev cur is = some r) :
    O.call 17 [AV.pv (PV.int IntKind.i64 cur), AV.pv (PV.sl is.nil (szc 3 is.l) (List.map T.Inst.enc is.l))] [] = some (AV.tup [AV.pv (PV.int IntKind.i64 r.1), AV.pv (PV.bool r.2)], []) := by
  unfold stops_Prev at h
  obtain ⟨v2, h1, h⟩ := Option.bind_eq_some_iff.1 h
  have f1 := stops_Numbers_ok h1
  try simp only [T.Inst.enc_eq, intE, encx.down, Nat.zero_add, Nat.reduceAdd] at f1
  obtain ⟨v4, h3, h⟩ := Option.bind_eq_some_iff.1 h
  have f2 := slices_Reverse_Lint_ok h3
  try simp only [intE, encx.down, Nat.zero_add, Nat.reduceAdd] at f2
  have f3 := slices_Reverse_Lint_len h3
  obtain ⟨v6, h5, h⟩ := Option.bind_eq_some_iff.1 h
  have f4 := stops_Prev_L0_ok h5
  try simp only [intE, encx.down, Nat.zero_add, Nat.reduceAdd, f3] at f4
  rcases v6 with y7 | y8
  dsimp only at h
  simp only [stops_Prev_L0_enc, intE, encx.down, Nat.zero_add, Nat.reduceAdd] at f4
  try simp only [f3] at f1 f2 f4
  cases h
  rotate_left
  dsimp only at h
  simp only [stops_Prev_L0_enc, intE, encx.down, Nat.zero_add, Nat.reduceAdd] at f4
  try simp only [f3] at f1 f2 f4
  cases h
  rotate_left
  all_goals
    refine omega_F rfl fn17 (by rfl) (by rfl) rfl ?_
    simp (disch := first | assumption | rfl | exact Sure.mk (by kernel_rfl)) only [coreG.down, tab.down, ↓reduceIte, Nat.reduceLeDiff, Nat.reduceEqDiff, Nat.reduceLT, Nat.reduceAdd, Nat.reduceSub, Nat.reduceMul, reduceCtorEq, Nat.reducePow, needs, aop, aBin, intBin, aLoad, List.toList_toArray, avOf, pvOf, allPV, List.take, List.drop, List.length_cons, List.length_nil, List.length_map, aStore, AV.stor, AV.cells, List.append, aFieldAddr, List.getElem?_cons_zero, List.getElem?_cons_succ, subHeap, AV.refs, AV.ren, AV.rows, if_true, if_false, List.nil_append, List.append_nil, List.cons_append, tupled, unz, aBuiltin, lenTd, aLen, ptrRows, List.getElem?_nil, touched, List.isEmpty_nil, Option.some.injEq, aUn, pure?, PV.cells, List.replicate, List.set_cons_zero, List.set_cons_succ, aConvert, strBin, sliceOf, eq_self, AV.thaw, Blk.thaw, aSlice, aNil, isNilV, aEq, plainEq, fitAll, keyFits, aMax, maxFrom, aPart, Blk.ren, Blk.refs, List.flatMap_nil, List.flatMap_cons, List.map_cons, List.map_nil, List.drop_zero, Option.isSome_none, Option.isNone_none, Option.isSome_some, Option.isNone_some, sp17_0, T.Inst.enc_eq, *]
def ref26_Prev_L0_enc : ((Int × Bool) ⊕ (Unit)) → Ex × St
  | .inl y => (Ex.ret, ⟨[(4, AV.pv (PV.int IntKind.i64 y.1)), (5, AV.pv (PV.bool y.2))], [], 0⟩)
  | .inr y => (Ex.normal, ⟨[(4, AV.undef), (5, AV.undef)], [], 0⟩)
set_option maxHeartbeats 4000000 in
theorem ref26_Prev_L0_ok {cur : Int} {ns : (Sl Int)} {i : Int} {r : ((Int × Bool) ⊕ (Unit))} (h : ref26_Prev_L0 (cur, ns, i) = some r) :
    O.loop 18 0 ⟨[(0, AV.pv (PV.int IntKind.i64 cur)), (6, AV.pv (PV.sl ns.nil (szc 1 ns.l) (List.map intE ns.l))), (7, AV.pv (PV.int IntKind.i64 i))], [], 0⟩ = some (ref26_Prev_L0_enc r) := by
  refine ref26_Prev_L0.partial_correctness (fun p r => O.loop 18 0 ⟨[(0, AV.pv (PV.int IntKind.i64 p.1)), (6, AV.pv (PV.sl p.2.1.nil (szc 1 p.2.1.l) (List.map intE p.2.1.l))), (7, AV.pv (PV.int IntKind.i64 p.2.2))], [], 0⟩ = some (ref26_Prev_L0_enc r)) ?_ (cur, ns, i) r h
  clear h r cur ns i
  intro ref26_Prev_L0 ih40
  rintro ⟨cur, ns, i⟩ r h
  dsimp only at h ⊢
  by_cases h1 : (decide (i ≥ (0 : Int))) = true
  rw [if_pos h1] at h
  obtain ⟨x3, h2, h⟩ := Option.bind_eq_some_iff.1 h
  have f1 := geti_nat h2 IntKind.i64
  have f2 := geti_map intE h2
  try simp only [intE, encx.down, Nat.zero_add, Nat.reduceAdd] at f2
  have f3 := geti_szcT h2 1
  obtain ⟨v5, h4, h⟩ := Option.bind_eq_some_iff.1 h
  have f4 := ref26_above_ok h4
  try simp only [encx.down, Nat.zero_add, Nat.reduceAdd] at f4
  by_cases h6 : v5 = true
  rw [if_pos h6] at h
  try simp only [h6] at f4
  cases h
  show _ = some (ref26_Prev_L0_enc (.inl _))
  dsimp only [ref26_Prev_L0_enc]
  clear ih40
  rotate_left
  rw [if_neg h6] at h; replace h6 := Bool.eq_false_iff.2 h6
  try simp only [h6] at f4
  have f5 := ih40 _ _ h
  try dsimp only at f5
  try simp only [intE, encx.down, Nat.zero_add, Nat.reduceAdd] at f5
  clear h
  try simp only [h6] at f5
  clear ih40
  rotate_left
  rw [if_neg h1] at h; replace h1 := Bool.eq_false_iff.2 h1
  cases h
  show _ = some (ref26_Prev_L0_enc (.inr _))
  dsimp only [ref26_Prev_L0_enc]
  clear ih40
  rotate_left
  all_goals
    refine omega_L fn18 (by rfl) ?_
    simp (disch := first | assumption | rfl | exact Sure.mk (by kernel_rfl)) only [coreG.down, tab.down, ↓reduceIte, Nat.reduceLeDiff, Nat.reduceEqDiff, Nat.reduceLT, Nat.reduceAdd, Nat.reduceSub, Nat.reduceMul, reduceCtorEq, Nat.reducePow, needs, aop, aBin, intBin, aLoad, List.toList_toArray, avOf, pvOf, allPV, List.take, List.drop, List.length_cons, List.length_nil, List.length_map, aStore, AV.stor, AV.cells, List.append, aFieldAddr, List.getElem?_cons_zero, List.getElem?_cons_succ, subHeap, AV.refs, AV.ren, AV.rows, if_true, if_false, List.nil_append, List.append_nil, List.cons_append, tupled, unz, aBuiltin, lenTd, aLen, ptrRows, List.getElem?_nil, touched, List.isEmpty_nil, Option.some.injEq, aUn, pure?, PV.cells, List.replicate, List.set_cons_zero, List.set_cons_succ, aConvert, strBin, sliceOf, eq_self, AV.thaw, Blk.thaw, aSlice, aNil, isNilV, aEq, plainEq, fitAll, keyFits, aMax, maxFrom, aPart, Blk.ren, Blk.refs, List.flatMap_nil, List.flatMap_cons, List.map_cons, List.map_nil, List.drop_zero, Option.isSome_none, Option.isNone_none, Option.isSome_some, Option.isNone_some, sp18_0, intE, *]
set_option maxHeartbeats 4000000 in
theorem ref26_Prev_ok {cur : Int} {is : (Sl T.Inst)} {r : (Int × Bool)} (h : ref26_Prev cur is = some r) :
    O.call 18 [AV.pv (PV.int IntKind.i64 cur), AV.pv (PV.sl is.nil (szc 3 is.l) (List.map T.Inst.enc is.l))] [] = some (AV.tup [AV.pv (PV.int IntKind.i64 r.1), AV.pv (PV.bool r.2)], []) := by
  unfold ref26_Prev at h
  obtain ⟨v2, h1, h⟩ := Option.bind_eq_some_iff.1 h
  have f1 := ref26_Numbers_ok h1
  try simp only [T.Inst.enc_eq, intE, encx.down, Nat.zero_add, Nat.reduceAdd] at f1
  obtain ⟨v4, h3, h⟩ := Option.bind_eq_some_iff.1 h
  have f2 := ref26_Prev_L0_ok h3
  try simp only [intE, encx.down, Nat.zero_add, Nat.reduceAdd] at f2
  rcases v4 with y5 | y6
  dsimp only at h
  simp only [ref26_Prev_L0_enc, intE, encx.down, Nat.zero_add, Nat.reduceAdd] at f2
  cases h
  rotate_left
  dsimp only at h
  simp only [ref26_Prev_L0_enc, intE, encx.down, Nat.zero_add, Nat.reduceAdd] at f2
  cases h
  rotate_left
  all_goals
    refine omega_F rfl fn18 (by rfl) (by rfl) rfl ?_
    simp (disch := first | assumption | rfl | exact Sure.mk (by kernel_rfl)) only [coreG.down, tab.down, ↓reduceIte, Nat.reduceLeDiff, Nat.reduceEqDiff, Nat.reduceLT, Nat.reduceAdd, Nat.reduceSub, Nat.reduceMul, reduceCtorEq, Nat.reducePow, needs, aop, aBin, intBin, aLoad, List.toList_toArray, avOf, pvOf, allPV, List.take, List.drop, List.length_cons, List.length_nil, List.length_map, aStore, AV.stor, AV.cells, List.append, aFieldAddr, List.getElem?_cons_zero, List.getElem?_cons_succ, subHeap, AV.refs, AV.ren, AV.rows, if_true, if_false, List.nil_append, List.append_nil, List.cons_append, tupled, unz, aBuiltin, lenTd, aLen, ptrRows, List.getElem?_nil, touched, List.isEmpty_nil, Option.some.injEq, aUn, pure?, PV.cells, List.replicate, List.set_cons_zero, List.set_cons_succ, aConvert, strBin, sliceOf, eq_self, AV.thaw, Blk.thaw, aSlice, aNil, isNilV, aEq, plainEq, fitAll, keyFits, aMax, maxFrom, aPart, Blk.ren, Blk.refs, List.flatMap_nil, List.flatMap_cons, List.map_cons, List.map_nil, List.drop_zero, Option.isSome_none, Option.isNone_none, Option.isSome_some, Option.isNone_some, sp18_0, T.Inst.enc_eq, *]
def law0_Ints_L0_enc : ((Bool) ⊕ (Unit)) → Ex × St
  | .inl y => (Ex.ret, ⟨[(4, AV.pv (PV.bool y))], [], 0⟩)
  | .inr y => (Ex.normal, ⟨[(4, AV.undef)], [], 0⟩)
set_option maxHeartbeats 4000000 in
theorem law0_Ints_L0_ok {a : (Sl Int)} {b : (Sl Int)} {i : Int} {r : ((Bool) ⊕ (Unit))} (h : law0_Ints_L0 (a, b, i) = some r) :
    O.loop 11 0 ⟨[(0, AV.pv (PV.sl a.nil (szc 1 a.l) (List.map intE a.l))), (1, AV.pv (PV.sl b.nil (szc 1 b.l) (List.map intE b.l))), (5, AV.pv (PV.int IntKind.i64 i))], [], 0⟩ = some (law0_Ints_L0_enc r) := by
  refine law0_Ints_L0.partial_correctness (fun p r => O.loop 11 0 ⟨[(0, AV.pv (PV.sl p.1.nil (szc 1 p.1.l) (List.map intE p.1.l))), (1, AV.pv (PV.sl p.2.1.nil (szc 1 p.2.1.l) (List.map intE p.2.1.l))), (5, AV.pv (PV.int IntKind.i64 p.2.2))], [], 0⟩ = some (law0_Ints_L0_enc r)) ?_ (a, b, i) r h
  clear h r a b i
  intro law0_Ints_L0 ih42
  rintro ⟨a, b, i⟩ r h
  dsimp only at h ⊢
  by_cases h1 : (decide (i < (a.l.length : Int))) = true
  rw [if_pos h1] at h
  obtain ⟨x3, h2, h⟩ := Option.bind_eq_some_iff.1 h
  have f1 := geti_nat h2 IntKind.i64
  have f2 := geti_map intE h2
  try simp only [intE, encx.down, Nat.zero_add, Nat.reduceAdd] at f2
  have f3 := geti_szcT h2 1
  obtain ⟨x5, h4, h⟩ := Option.bind_eq_some_iff.1 h
  have f4 := geti_nat h4 IntKind.i64
  have f5 := geti_map intE h4
  try simp only [intE, encx.down, Nat.zero_add, Nat.reduceAdd] at f5
  have f6 := geti_szcT h4 1
  by_cases h6 : (x3 != x5) = true
  rw [if_pos h6] at h
  cases h
  show _ = some (law0_Ints_L0_enc (.inl _))
  dsimp only [law0_Ints_L0_enc]
  clear ih42
  rotate_left
  rw [if_neg h6] at h; replace h6 := Bool.eq_false_iff.2 h6
  have f7 := ih42 _ _ h
  try dsimp only at f7
  try simp only [intE, encx.down, Nat.zero_add, Nat.reduceAdd] at f7
  clear h
  clear ih42
  rotate_left
  rw [if_neg h1] at h; replace h1 := Bool.eq_false_iff.2 h1
  cases h
  show _ = some (law0_Ints_L0_enc (.inr _))
  dsimp only [law0_Ints_L0_enc]
  clear ih42
  rotate_left
  all_goals
    refine omega_L fn11 (by rfl) ?_
    simp (disch := first | assumption | rfl | exact Sure.mk (by kernel_rfl)) only [coreG.down, tab.down, ↓reduceIte, Nat.reduceLeDiff, Nat.reduceEqDiff, Nat.reduceLT, Nat.reduceAdd, Nat.reduceSub, Nat.reduceMul, reduceCtorEq, Nat.reducePow, needs, aop, aBin, intBin, aLoad, List.toList_toArray, avOf, pvOf, allPV, List.take, List.drop, List.length_cons, List.length_nil, List.length_map, aStore, AV.stor, AV.cells, List.append, aFieldAddr, List.getElem?_cons_zero, List.getElem?_cons_succ, subHeap, AV.refs, AV.ren, AV.rows, if_true, if_false, List.nil_append, List.append_nil, List.cons_append, tupled, unz, aBuiltin, lenTd, aLen, ptrRows, List.getElem?_nil, touched, List.isEmpty_nil, Option.some.injEq, aUn, pure?, PV.cells, List.replicate, List.set_cons_zero, List.set_cons_succ, aConvert, strBin, sliceOf, eq_self, AV.thaw, Blk.thaw, aSlice, aNil, isNilV, aEq, plainEq, fitAll, keyFits, aMax, maxFrom, aPart, Blk.ren, Blk.refs, List.flatMap_nil, List.flatMap_cons, List.map_cons, List.map_nil, List.drop_zero, Option.isSome_none, Option.isNone_none, Option.isSome_some, Option.isNone_some, sp11_0, intE, *]
set_option maxHeartbeats 4000000 in
theorem law0_Ints_ok {a : (Sl Int)} {b : (Sl Int)} {r : (Bool)} (h : law0_Ints a b = some r) :
    O.call 11 [AV.pv (PV.sl a.nil (szc 1 a.l) (List.map intE a.l)), AV.pv (PV.sl b.nil (szc 1 b.l) (List.map intE b.l))] [] = some (AV.pv (PV.bool r), []) := by
  unfold law0_Ints at h
  by_cases h1 : ((a.l.length : Int) != (b.l.length : Int)) = true
  rw [if_pos h1] at h
  cases h
  rotate_left
  rw [if_neg h1] at h; replace h1 := Bool.eq_false_iff.2 h1
  obtain ⟨v3, h2, h⟩ := Option.bind_eq_some_iff.1 h
  have f1 := law0_Ints_L0_ok h2
  try simp only [intE, encx.down, Nat.zero_add, Nat.reduceAdd] at f1
  rcases v3 with y4 | y5
  dsimp only at h
  simp only [law0_Ints_L0_enc, intE, encx.down, Nat.zero_add, Nat.reduceAdd] at f1
  cases h
  rotate_left
  dsimp only at h
  simp only [law0_Ints_L0_enc, intE, encx.down, Nat.zero_add, Nat.reduceAdd] at f1
  cases h
  rotate_left
  all_goals
    refine omega_F rfl fn11 (by rfl) (by rfl) rfl ?_
    simp (disch := first | assumption | rfl | exact Sure.mk (by kernel_rfl)) only [coreG.down, tab.down, ↓reduceIte, Nat.reduceLeDiff, Nat.reduceEqDiff, Nat.reduceLT, Nat.reduceAdd, Nat.reduceSub, Nat.reduceMul, reduceCtorEq, Nat.reducePow, needs, aop, aBin, intBin, aLoad, List.toList_toArray, avOf, pvOf, allPV, List.take, List.drop, List.length_cons, List.length_nil, List.length_map, aStore, AV.stor, AV.cells, List.append, aFieldAddr, List.getElem?_cons_zero, List.getElem?_cons_succ, subHeap, AV.refs, AV.ren, AV.rows, if_true, if_false, List.nil_append, List.append_nil, List.cons_append, tupled, unz, aBuiltin, lenTd, aLen, ptrRows, List.getElem?_nil, touched, List.isEmpty_nil, Option.some.injEq, aUn, pure?, PV.cells, List.replicate, List.set_cons_zero, List.set_cons_succ, aConvert, strBin, sliceOf, eq_self, AV.thaw, Blk.thaw, aSlice, aNil, isNilV, aEq, plainEq, fitAll, keyFits, aMax, maxFrom, aPart, Blk.ren, Blk.refs, List.flatMap_nil, List.flatMap_cons, List.map_cons, List.map_nil, List.drop_zero, Option.isSome_none, Option.isNone_none, Option.isSome_some, Option.isNone_some, sp11_0, intE, *]
set_option maxHeartbeats 4000000 in
theorem stops_Spans_L2_ok {n : Int} {t10 : (Sl T.Inst)} {t11 : Int} {t12 : Int} {t17 : (Sl T.Stop)} {t18 : Int} {t19 : Int} {out : (List T.Span)} {b1_ : T.Inst} {r : ((List T.Span))} (h : stops_Spans_L2 (n, t10, t11, t12, t17, t18, t19, out, b1_) = some r) :
    O.loop 22 2 ⟨[(0, AV.pv (PV.int IntKind.i64 n)), (5, AV.row 0 out.length 0 out.length), (10, AV.pv (PV.sl t10.nil (szc 3 t10.l) (List.map T.Inst.enc t10.l))), (11, AV.pv (PV.int IntKind.i64 t11)), (12, AV.pv (PV.int IntKind.i64 t12)), (17, AV.pv (PV.sl t17.nil (szc 18 t17.l) (List.map T.Stop.enc t17.l))), (18, AV.pv (PV.int IntKind.i64 t18)), (19, AV.pv (PV.int IntKind.i64 t19))], [(0, Blk.row out.isEmpty (szc 2 out) (List.map T.Span.enc out)), (1, Blk.box (List.map AV.pv (T.Inst.enc b1_)))], 2⟩ = some (Ex.normal, ⟨[(0, AV.pv (PV.int IntKind.i64 n)), (5, AV.row 0 r.length 0 r.length), (10, AV.pv (PV.sl t10.nil (szc 3 t10.l) (List.map T.Inst.enc t10.l))), (11, AV.pv (PV.int IntKind.i64 t11)), (12, AV.pv (PV.int IntKind.i64 t12))], [(0, Blk.row r.isEmpty (szc 2 r) (List.map T.Span.enc r)), (1, Blk.box (List.map AV.pv (T.Inst.enc b1_)))], 2⟩) := by
  refine stops_Spans_L2.partial_correctness (fun p r => O.loop 22 2 ⟨[(0, AV.pv (PV.int IntKind.i64 p.1)), (5, AV.row 0 p.2.2.2.2.2.2.2.1.length 0 p.2.2.2.2.2.2.2.1.length), (10, AV.pv (PV.sl p.2.1.nil (szc 3 p.2.1.l) (List.map T.Inst.enc p.2.1.l))), (11, AV.pv (PV.int IntKind.i64 p.2.2.1)), (12, AV.pv (PV.int IntKind.i64 p.2.2.2.1)), (17, AV.pv (PV.sl p.2.2.2.2.1.nil (szc 18 p.2.2.2.2.1.l) (List.map T.Stop.enc p.2.2.2.2.1.l))), (18, AV.pv (PV.int IntKind.i64 p.2.2.2.2.2.1)), (19, AV.pv (PV.int IntKind.i64 p.2.2.2.2.2.2.1))], [(0, Blk.row p.2.2.2.2.2.2.2.1.isEmpty (szc 2 p.2.2.2.2.2.2.2.1) (List.map T.Span.enc p.2.2.2.2.2.2.2.1)), (1, Blk.box (List.map AV.pv (T.Inst.enc p.2.2.2.2.2.2.2.2)))], 2⟩ = some (Ex.normal, ⟨[(0, AV.pv (PV.int IntKind.i64 p.1)), (5, AV.row 0 r.length 0 r.length), (10, AV.pv (PV.sl p.2.1.nil (szc 3 p.2.1.l) (List.map T.Inst.enc p.2.1.l))), (11, AV.pv (PV.int IntKind.i64 p.2.2.1)), (12, AV.pv (PV.int IntKind.i64 p.2.2.2.1))], [(0, Blk.row r.isEmpty (szc 2 r) (List.map T.Span.enc r)), (1, Blk.box (List.map AV.pv (T.Inst.enc p.2.2.2.2.2.2.2.2)))], 2⟩)) ?_ (n, t10, t11, t12, t17, t18, t19, out, b1_) r h
  clear h r n t10 t11 t12 t17 t18 t19 out b1_
  intro stops_Spans_L2 ih45
  rintro ⟨n, t10, t11, t12, t17, t18, t19, out, b1_⟩ r h
  dsimp only at h ⊢
  by_cases h1 : (decide (t19 < t18)) = true
  rw [if_pos h1] at h
  obtain ⟨x3, h2, h⟩ := Option.bind_eq_some_iff.1 h
  have f1 := geti_nat h2 IntKind.i64
  have f2 := geti_map T.Stop.enc h2
  try simp only [T.Stop.enc_eq, encx.down, Nat.zero_add, Nat.reduceAdd] at f2
  have f3 := geti_szcT h2 18
  by_cases g4 : ((x3.n == n) && (!x3.turned)) = true
  rw [if_pos g4] at h
  rcases (by intro u0 u1; cases u0 <;> cases u1 <;> simp [Dum] : ∀ u0 u1 : Bool, (u0 && u1) = true → (u0 = true ∧ u1 = true)) (x3.n == n) (!x3.turned) g4 with ⟨h4, h5⟩
  clear g4
  by_cases h6 : ¬ (roomOK (out.length + 1) 16 = true)
  rw [if_neg h6] at h; cases h
  replace h6 := Decidable.of_not_not h6; rw [if_pos h6] at h
  have f5 := h6
  have f6 := fun te β nx c0 (h1 : 2 = te.size) (h2 : roomOK (out.length + 1) te.bytes = true) => rowApp_G te β 2 nx T.Span.enc out c0 [] h1 h2
  have f7 : List.map T.Span.enc out ++ [[PV.int IntKind.i64 x3.span.frm, PV.int IntKind.i64 x3.span.to]] = List.map T.Span.enc (out ++ [x3.span]) := by simp only [List.map_append, List.map_cons, List.map_nil, u8_nat, u8_wrap, T.Span.enc_eq]
  have f8 := ih45 _ _ h
  try dsimp only at f8
  try simp only [T.Inst.enc_eq, T.Span.enc_eq, T.Stop.enc_eq, encx.down, Nat.zero_add, Nat.reduceAdd] at f8
  clear h
  clear ih45
  rotate_left
  focus
    rw [if_neg g4] at h; replace g4 := Bool.eq_false_iff.2 g4
    rcases (by intro u0 u1; cases u0 <;> cases u1 <;> simp [Dum] : ∀ u0 u1 : Bool, (u0 && u1) = false → (u0 = false ∧ Dum) ∨ (u0 = true ∧ u1 = false)) (x3.n == n) (!x3.turned) g4 with ⟨h4, h5⟩ | ⟨h4, h5⟩
    clear g4
    all_goals
      have f9 := ih45 _ _ h
      try dsimp only at f9
      try simp only [T.Inst.enc_eq, T.Span.enc_eq, T.Stop.enc_eq, encx.down, Nat.zero_add, Nat.reduceAdd] at f9
      clear h
      clear ih45
      rotate_left
  rotate_left 2
  rw [if_neg h1] at h; replace h1 := Bool.eq_false_iff.2 h1
  cases h
  clear ih45
  rotate_left
  all_goals
    refine omega_L fn22 (by rfl) ?_
    simp (disch := first | assumption | rfl | exact Sure.mk (by kernel_rfl)) only [coreG.down, tab.down, ↓reduceIte, Nat.reduceLeDiff, Nat.reduceEqDiff, Nat.reduceLT, Nat.reduceAdd, Nat.reduceSub, Nat.reduceMul, reduceCtorEq, Nat.reducePow, needs, aop, aBin, intBin, aLoad, List.toList_toArray, avOf, pvOf, allPV, List.take, List.drop, List.length_cons, List.length_nil, List.length_map, aStore, AV.stor, AV.cells, List.append, aFieldAddr, List.getElem?_cons_zero, List.getElem?_cons_succ, subHeap, AV.refs, AV.ren, AV.rows, if_true, if_false, List.nil_append, List.append_nil, List.cons_append, tupled, unz, aBuiltin, lenTd, aLen, ptrRows, List.getElem?_nil, touched, List.isEmpty_nil, Option.some.injEq, aUn, pure?, PV.cells, List.replicate, List.set_cons_zero, List.set_cons_succ, aConvert, strBin, sliceOf, eq_self, AV.thaw, Blk.thaw, aSlice, aNil, isNilV, aEq, plainEq, fitAll, keyFits, aMax, maxFrom, aPart, Blk.ren, Blk.refs, List.flatMap_nil, List.flatMap_cons, List.map_cons, List.map_nil, List.drop_zero, Option.isSome_none, Option.isNone_none, Option.isSome_some, Option.isNone_some, sp22_0, sp22_2, T.Inst.enc_eq, T.Span.enc_eq, T.Stop.enc_eq, *]
set_option maxHeartbeats 4000000 in
theorem stops_Spans_L0_ok {n : Int} {t10 : (Sl T.Inst)} {t11 : Int} {t12 : Int} {out : (List T.Span)} {r : ((List T.Span))} (h : stops_Spans_L0 (n, t10, t11, t12, out) = some r) :
    O.loop 22 0 ⟨[(0, AV.pv (PV.int IntKind.i64 n)), (5, AV.row 0 out.length 0 out.length), (10, AV.pv (PV.sl t10.nil (szc 3 t10.l) (List.map T.Inst.enc t10.l))), (11, AV.pv (PV.int IntKind.i64 t11)), (12, AV.pv (PV.int IntKind.i64 t12))], [(0, Blk.row out.isEmpty (szc 2 out) (List.map T.Span.enc out))], 1⟩ = some (Ex.normal, ⟨[(5, AV.row 0 r.length 0 r.length)], [(0, Blk.row r.isEmpty (szc 2 r) (List.map T.Span.enc r))], 1⟩) := by
  refine stops_Spans_L0.partial_correctness (fun p r => O.loop 22 0 ⟨[(0, AV.pv (PV.int IntKind.i64 p.1)), (5, AV.row 0 p.2.2.2.2.length 0 p.2.2.2.2.length), (10, AV.pv (PV.sl p.2.1.nil (szc 3 p.2.1.l) (List.map T.Inst.enc p.2.1.l))), (11, AV.pv (PV.int IntKind.i64 p.2.2.1)), (12, AV.pv (PV.int IntKind.i64 p.2.2.2.1))], [(0, Blk.row p.2.2.2.2.isEmpty (szc 2 p.2.2.2.2) (List.map T.Span.enc p.2.2.2.2))], 1⟩ = some (Ex.normal, ⟨[(5, AV.row 0 r.length 0 r.length)], [(0, Blk.row r.isEmpty (szc 2 r) (List.map T.Span.enc r))], 1⟩)) ?_ (n, t10, t11, t12, out) r h
  clear h r n t10 t11 t12 out
  intro stops_Spans_L0 ih44
  rintro ⟨n, t10, t11, t12, out⟩ r h
  dsimp only at h ⊢
  by_cases h1 : (decide (t12 < t11)) = true
  rw [if_pos h1] at h
  obtain ⟨x3, h2, h⟩ := Option.bind_eq_some_iff.1 h
  have f1 := geti_nat h2 IntKind.i64
  have f2 := geti_map T.Inst.enc h2
  try simp only [T.Inst.enc_eq, encx.down, Nat.zero_add, Nat.reduceAdd] at f2
  have f3 := geti_szcT h2 3
  obtain ⟨v5, h4, h⟩ := Option.bind_eq_some_iff.1 h
  have f4 := stops_Spans_L2_ok h4
  try simp only [T.Inst.enc_eq, T.Span.enc_eq, T.Stop.enc_eq, encx.down, Nat.zero_add, Nat.reduceAdd] at f4
  have f5 := ih44 _ _ h
  try dsimp only at f5
  try simp only [T.Inst.enc_eq, T.Span.enc_eq, encx.down, Nat.zero_add, Nat.reduceAdd] at f5
  clear h
  clear ih44
  rotate_left
  rw [if_neg h1] at h; replace h1 := Bool.eq_false_iff.2 h1
  cases h
  clear ih44
  rotate_left
  all_goals
    refine omega_L fn22 (by rfl) ?_
    simp (disch := first | assumption | rfl | exact Sure.mk (by kernel_rfl)) only [coreG.down, tab.down, ↓reduceIte, Nat.reduceLeDiff, Nat.reduceEqDiff, Nat.reduceLT, Nat.reduceAdd, Nat.reduceSub, Nat.reduceMul, reduceCtorEq, Nat.reducePow, needs, aop, aBin, intBin, aLoad, List.toList_toArray, avOf, pvOf, allPV, List.take, List.drop, List.length_cons, List.length_nil, List.length_map, aStore, AV.stor, AV.cells, List.append, aFieldAddr, List.getElem?_cons_zero, List.getElem?_cons_succ, subHeap, AV.refs, AV.ren, AV.rows, if_true, if_false, List.nil_append, List.append_nil, List.cons_append, tupled, unz, aBuiltin, lenTd, aLen, ptrRows, List.getElem?_nil, touched, List.isEmpty_nil, Option.some.injEq, aUn, pure?, PV.cells, List.replicate, List.set_cons_zero, List.set_cons_succ, aConvert, strBin, sliceOf, eq_self, AV.thaw, Blk.thaw, aSlice, aNil, isNilV, aEq, plainEq, fitAll, keyFits, aMax, maxFrom, aPart, Blk.ren, Blk.refs, List.flatMap_nil, List.flatMap_cons, List.map_cons, List.map_nil, List.drop_zero, Option.isSome_none, Option.isNone_none, Option.isSome_some, Option.isNone_some, sp22_0, sp22_2, T.Inst.enc_eq, T.Span.enc_eq, *]
set_option maxHeartbeats 4000000 in
theorem stops_Spans_ok {n : Int} {is : (Sl T.Inst)} {r : ((Sl T.Span))} (h : stops_Spans n is = some r) :
    O.call 22 [AV.pv (PV.int IntKind.i64 n), AV.pv (PV.sl is.nil (szc 3 is.l) (List.map T.Inst.enc is.l))] [] = some (AV.pv (PV.sl r.nil (szc 2 r.l) (List.map T.Span.enc r.l)), []) := by
  unfold stops_Spans at h
  obtain ⟨v2, h1, h⟩ := Option.bind_eq_some_iff.1 h
  have f1 := stops_Spans_L0_ok h1
  try simp only [T.Inst.enc_eq, T.Span.enc_eq, encx.down, Nat.zero_add, Nat.reduceAdd] at f1
  cases h
  rotate_left
  all_goals
    refine omega_F rfl fn22 (by rfl) (by rfl) rfl ?_
    simp (disch := first | assumption | rfl | exact Sure.mk (by kernel_rfl)) only [coreG.down, tab.down, ↓reduceIte, Nat.reduceLeDiff, Nat.reduceEqDiff, Nat.reduceLT, Nat.reduceAdd, Nat.reduceSub, Nat.reduceMul, reduceCtorEq, Nat.reducePow, needs, aop, aBin, intBin, aLoad, List.toList_toArray, avOf, pvOf, allPV, List.take, List.drop, List.length_cons, List.length_nil, List.length_map, aStore, AV.stor, AV.cells, List.append, aFieldAddr, List.getElem?_cons_zero, List.getElem?_cons_succ, subHeap, AV.refs, AV.ren, AV.rows, if_true, if_false, List.nil_append, List.append_nil, List.cons_append, tupled, unz, aBuiltin, lenTd, aLen, ptrRows, List.getElem?_nil, touched, List.isEmpty_nil, Option.some.injEq, aUn, pure?, PV.cells, List.replicate, List.set_cons_zero, List.set_cons_succ, aConvert, strBin, sliceOf, eq_self, AV.thaw, Blk.thaw, aSlice, aNil, isNilV, aEq, plainEq, fitAll, keyFits, aMax, maxFrom, aPart, Blk.ren, Blk.refs, List.flatMap_nil, List.flatMap_cons, List.map_cons, List.map_nil, List.drop_zero, Option.isSome_none, Option.isNone_none, Option.isSome_some, Option.isNone_some, sp22_0, sp22_2, T.Inst.enc_eq, T.Span.enc_eq, *]
set_option maxHeartbeats 4000000 in
theorem ref26_Spans_L2_ok {n : Int} {is : (Sl T.Inst)} {i : Int} {k : Int} {out : (List T.Span)} {r : ((List T.Span))} (h : ref26_Spans_L2 (n, is, i, k, out) = some r) :
    O.loop 23 2 ⟨[(0, AV.pv (PV.int IntKind.i64 n)), (1, AV.pv (PV.sl is.nil (szc 3 is.l) (List.map T.Inst.enc is.l))), (5, AV.row 0 out.length 0 out.length), (6, AV.pv (PV.int IntKind.i64 i)), (7, AV.pv (PV.int IntKind.i64 k))], [(0, Blk.row out.isEmpty (szc 2 out) (List.map T.Span.enc out))], 1⟩ = some (Ex.normal, ⟨[(0, AV.pv (PV.int IntKind.i64 n)), (1, AV.pv (PV.sl is.nil (szc 3 is.l) (List.map T.Inst.enc is.l))), (5, AV.row 0 r.length 0 r.length), (6, AV.pv (PV.int IntKind.i64 i))], [(0, Blk.row r.isEmpty (szc 2 r) (List.map T.Span.enc r))], 1⟩) := by
  refine ref26_Spans_L2.partial_correctness (fun p r => O.loop 23 2 ⟨[(0, AV.pv (PV.int IntKind.i64 p.1)), (1, AV.pv (PV.sl p.2.1.nil (szc 3 p.2.1.l) (List.map T.Inst.enc p.2.1.l))), (5, AV.row 0 p.2.2.2.2.length 0 p.2.2.2.2.length), (6, AV.pv (PV.int IntKind.i64 p.2.2.1)), (7, AV.pv (PV.int IntKind.i64 p.2.2.2.1))], [(0, Blk.row p.2.2.2.2.isEmpty (szc 2 p.2.2.2.2) (List.map T.Span.enc p.2.2.2.2))], 1⟩ = some (Ex.normal, ⟨[(0, AV.pv (PV.int IntKind.i64 p.1)), (1, AV.pv (PV.sl p.2.1.nil (szc 3 p.2.1.l) (List.map T.Inst.enc p.2.1.l))), (5, AV.row 0 r.length 0 r.length), (6, AV.pv (PV.int IntKind.i64 p.2.2.1))], [(0, Blk.row r.isEmpty (szc 2 r) (List.map T.Span.enc r))], 1⟩)) ?_ (n, is, i, k, out) r h
  clear h r n is i k out
  intro ref26_Spans_L2 ih48
  rintro ⟨n, is, i, k, out⟩ r h
  dsimp only at h ⊢
  obtain ⟨x2, h1, h⟩ := Option.bind_eq_some_iff.1 h
  have f1 := geti_nat h1 IntKind.i64
  have f2 := geti_map T.Inst.enc h1
  try simp only [T.Inst.enc_eq, encx.down, Nat.zero_add, Nat.reduceAdd] at f2
  have f3 := geti_szcT h1 3
  by_cases h3 : (decide (k < (x2.stops.l.length : Int))) = true
  rw [if_pos h3] at h
  obtain ⟨x5, h4, h⟩ := Option.bind_eq_some_iff.1 h
  have f4 := geti_nat h4 IntKind.i64
  have f5 := geti_map T.Stop.enc h4
  try simp only [T.Stop.enc_eq, encx.down, Nat.zero_add, Nat.reduceAdd] at f5
  have f6 := geti_szcT h4 18
  by_cases h6 : (!x5.turned) = true
  rw [if_pos h6] at h
  by_cases h7 : (x5.n == n) = true
  rw [if_pos h7] at h
  by_cases h8 : ¬ (roomOK (out.length + 1) 16 = true)
  rw [if_neg h8] at h; cases h
  replace h8 := Decidable.of_not_not h8; rw [if_pos h8] at h
  have f7 := h8
  have f8 := fun te β nx c0 (h1 : 2 = te.size) (h2 : roomOK (out.length + 1) te.bytes = true) => rowApp_G te β 2 nx T.Span.enc out c0 [] h1 h2
  have f9 : List.map T.Span.enc out ++ [[PV.int IntKind.i64 x5.span.frm, PV.int IntKind.i64 x5.span.to]] = List.map T.Span.enc (out ++ [x5.span]) := by simp only [List.map_append, List.map_cons, List.map_nil, u8_nat, u8_wrap, T.Span.enc_eq]
  have f10 := ih48 _ _ h
  try dsimp only at f10
  try simp only [T.Inst.enc_eq, T.Span.enc_eq, encx.down, Nat.zero_add, Nat.reduceAdd] at f10
  clear h
  clear ih48
  rotate_left
  rw [if_neg h7] at h; replace h7 := Bool.eq_false_iff.2 h7
  have f11 := ih48 _ _ h
  try dsimp only at f11
  try simp only [T.Inst.enc_eq, T.Span.enc_eq, encx.down, Nat.zero_add, Nat.reduceAdd] at f11
  clear h
  clear ih48
  rotate_left
  rw [if_neg h6] at h; replace h6 := Bool.eq_false_iff.2 h6
  have f12 := ih48 _ _ h
  try dsimp only at f12
  try simp only [T.Inst.enc_eq, T.Span.enc_eq, encx.down, Nat.zero_add, Nat.reduceAdd] at f12
  clear h
  clear ih48
  rotate_left
  rw [if_neg h3] at h; replace h3 := Bool.eq_false_iff.2 h3
  cases h
  clear ih48
  rotate_left
  all_goals
    refine omega_L fn23 (by rfl) ?_
    simp (disch := first | assumption | rfl | exact Sure.mk (by kernel_rfl)) only [coreG.down, tab.down, ↓reduceIte, Nat.reduceLeDiff, Nat.reduceEqDiff, Nat.reduceLT, Nat.reduceAdd, Nat.reduceSub, Nat.reduceMul, reduceCtorEq, Nat.reducePow, needs, aop, aBin, intBin, aLoad, List.toList_toArray, avOf, pvOf, allPV, List.take, List.drop, List.length_cons, List.length_nil, List.length_map, aStore, AV.stor, AV.cells, List.append, aFieldAddr, List.getElem?_cons_zero, List.getElem?_cons_succ, subHeap, AV.refs, AV.ren, AV.rows, if_true, if_false, List.nil_append, List.append_nil, List.cons_append, tupled, unz, aBuiltin, lenTd, aLen, ptrRows, List.getElem?_nil, touched, List.isEmpty_nil, Option.some.injEq, aUn, pure?, PV.cells, List.replicate, List.set_cons_zero, List.set_cons_succ, aConvert, strBin, sliceOf, eq_self, AV.thaw, Blk.thaw, aSlice, aNil, isNilV, aEq, plainEq, fitAll, keyFits, aMax, maxFrom, aPart, Blk.ren, Blk.refs, List.flatMap_nil, List.flatMap_cons, List.map_cons, List.map_nil, List.drop_zero, Option.isSome_none, Option.isNone_none, Option.isSome_some, Option.isNone_some, sp23_0, sp23_2, T.Inst.enc_eq, T.Span.enc_eq, *]
set_option maxHeartbeats 4000000 in
theorem ref26_Spans_L0_ok {n : Int} {is : (Sl T.Inst)} {i : Int} {out : (List T.Span)} {r : ((List T.Span))} (h : ref26_Spans_L0 (n, is, i, out) = some r) :
    O.loop 23 0 ⟨[(0, AV.pv (PV.int IntKind.i64 n)), (1, AV.pv (PV.sl is.nil (szc 3 is.l) (List.map T.Inst.enc is.l))), (5, AV.row 0 out.length 0 out.length), (6, AV.pv (PV.int IntKind.i64 i))], [(0, Blk.row out.isEmpty (szc 2 out) (List.map T.Span.enc out))], 1⟩ = some (Ex.normal, ⟨[(5, AV.row 0 r.length 0 r.length)], [(0, Blk.row r.isEmpty (szc 2 r) (List.map T.Span.enc r))], 1⟩) := by
  refine ref26_Spans_L0.partial_correctness (fun p r => O.loop 23 0 ⟨[(0, AV.pv (PV.int IntKind.i64 p.1)), (1, AV.pv (PV.sl p.2.1.nil (szc 3 p.2.1.l) (List.map T.Inst.enc p.2.1.l))), (5, AV.row 0 p.2.2.2.length 0 p.2.2.2.length), (6, AV.pv (PV.int IntKind.i64 p.2.2.1))], [(0, Blk.row p.2.2.2.isEmpty (szc 2 p.2.2.2) (List.map T.Span.enc p.2.2.2))], 1⟩ = some (Ex.normal, ⟨[(5, AV.row 0 r.length 0 r.length)], [(0, Blk.row r.isEmpty (szc 2 r) (List.map T.Span.enc r))], 1⟩)) ?_ (n, is, i, out) r h
  clear h r n is i out
  intro ref26_Spans_L0 ih47
  rintro ⟨n, is, i, out⟩ r h
  dsimp only at h ⊢
  by_cases h1 : (decide (i < (is.l.length : Int))) = true
  rw [if_pos h1] at h
  obtain ⟨v3, h2, h⟩ := Option.bind_eq_some_iff.1 h
  have f1 := ref26_Spans_L2_ok h2
  try simp only [T.Inst.enc_eq, T.Span.enc_eq, encx.down, Nat.zero_add, Nat.reduceAdd] at f1
  have f2 := ih47 _ _ h
  try dsimp only at f2
  try simp only [T.Inst.enc_eq, T.Span.enc_eq, encx.down, Nat.zero_add, Nat.reduceAdd] at f2
  clear h
  clear ih47
  rotate_left
  rw [if_neg h1] at h; replace h1 := Bool.eq_false_iff.2 h1
  cases h
  clear ih47
  rotate_left
  all_goals
    refine omega_L fn23 (by rfl) ?_
    simp (disch := first | assumption | rfl | exact Sure.mk (by kernel_rfl)) only [coreG.down, tab.down, ↓reduceIte, Nat.reduceLeDiff, Nat.reduceEqDiff, Nat.reduceLT, Nat.reduceAdd, Nat.reduceSub, Nat.reduceMul, reduceCtorEq, Nat.reducePow, needs, aop, aBin, intBin, aLoad, List.toList_toArray, avOf, pvOf, allPV, List.take, List.drop, List.length_cons, List.length_nil, List.length_map, aStore, AV.stor, AV.cells, List.append, aFieldAddr, List.getElem?_cons_zero, List.getElem?_cons_succ, subHeap, AV.refs, AV.ren, AV.rows, if_true, if_false, List.nil_append, List.append_nil, List.cons_append, tupled, unz, aBuiltin, lenTd, aLen, ptrRows, List.getElem?_nil, touched, List.isEmpty_nil, Option.some.injEq, aUn, pure?, PV.cells, List.replicate, List.set_cons_zero, List.set_cons_succ, aConvert, strBin, sliceOf, eq_self, AV.thaw, Blk.thaw, aSlice, aNil, isNilV, aEq, plainEq, fitAll, keyFits, aMax, maxFrom, aPart, Blk.ren, Blk.refs, List.flatMap_nil, List.flatMap_cons, List.map_cons, List.map_nil, List.drop_zero, Option.isSome_none, Option.isNone_none, Option.isSome_some, Option.isNone_some, sp23_0, sp23_2, T.Inst.enc_eq, T.Span.enc_eq, *]
set_option maxHeartbeats 4000000 in
theorem ref26_Spans_ok {n : Int} {is : (Sl T.Inst)} {r : ((Sl T.Span))} (h : ref26_Spans n is = some r) :
    O.call 23 [AV.pv (PV.int IntKind.i64 n), AV.pv (PV.sl is.nil (szc 3 is.l) (List.map T.Inst.enc is.l))] [] = some (AV.pv (PV.sl r.nil (szc 2 r.l) (List.map T.Span.enc r.l)), []) := by
  unfold ref26_Spans at h
  obtain ⟨v2, h1, h⟩ := Option.bind_eq_some_iff.1 h
  have f1 := ref26_Spans_L0_ok h1
  try simp only [T.Inst.enc_eq, T.Span.enc_eq, encx.down, Nat.zero_add, Nat.reduceAdd] at f1
  cases h
  rotate_left
  all_goals
    refine omega_F rfl fn23 (by rfl) (by rfl) rfl ?_
    simp (disch := first | assumption | rfl | exact Sure.mk (by kernel_rfl)) only [coreG.down, tab.down, ↓reduceIte, Nat.reduceLeDiff, Nat.reduceEqDiff, Nat.reduceLT, Nat.reduceAdd, Nat.reduceSub, Nat.reduceMul, reduceCtorEq, Nat.reducePow, needs, aop, aBin, intBin, aLoad, List.toList_toArray, avOf, pvOf, allPV, List.take, List.drop, List.length_cons, List.length_nil, List.length_map, aStore, AV.stor, AV.cells, List.append, aFieldAddr, List.getElem?_cons_zero, List.getElem?_cons_succ, subHeap, AV.refs, AV.ren, AV.rows, if_true, if_false, List.nil_append, List.append_nil, List.cons_append, tupled, unz, aBuiltin, lenTd, aLen, ptrRows, List.getElem?_nil, touched, List.isEmpty_nil, Option.some.injEq, aUn, pure?, PV.cells, List.replicate, List.set_cons_zero, List.set_cons_succ, aConvert, strBin, sliceOf, eq_self, AV.thaw, Blk.thaw, aSlice, aNil, isNilV, aEq, plainEq, fitAll, keyFits, aMax, maxFrom, aPart, Blk.ren, Blk.refs, List.flatMap_nil, List.flatMap_cons, List.map_cons, List.map_nil, List.drop_zero, Option.isSome_none, Option.isNone_none, Option.isSome_some, Option.isNone_some, sp23_0, sp23_2, T.Inst.enc_eq, T.Span.enc_eq, *]
def law0_Spans_L0_enc : ((Bool) ⊕ (Unit)) → Ex × St
  | .inl y => (Ex.ret, ⟨[(4, AV.pv (PV.bool y))], [], 0⟩)
  | .inr y => (Ex.normal, ⟨[(4, AV.undef)], [], 0⟩)
set_option maxHeartbeats 4000000 in
theorem law0_Spans_L0_ok {a : (Sl T.Span)} {b : (Sl T.Span)} {i : Int} {r : ((Bool) ⊕ (Unit))} (h : law0_Spans_L0 (a, b, i) = some r) :
    O.loop 21 0 ⟨[(0, AV.pv (PV.sl a.nil (szc 2 a.l) (List.map T.Span.enc a.l))), (1, AV.pv (PV.sl b.nil (szc 2 b.l) (List.map T.Span.enc b.l))), (5, AV.pv (PV.int IntKind.i64 i))], [], 0⟩ = some (law0_Spans_L0_enc r) := by
  refine law0_Spans_L0.partial_correctness (fun p r => O.loop 21 0 ⟨[(0, AV.pv (PV.sl p.1.nil (szc 2 p.1.l) (List.map T.Span.enc p.1.l))), (1, AV.pv (PV.sl p.2.1.nil (szc 2 p.2.1.l) (List.map T.Span.enc p.2.1.l))), (5, AV.pv (PV.int IntKind.i64 p.2.2))], [], 0⟩ = some (law0_Spans_L0_enc r)) ?_ (a, b, i) r h
  clear h r a b i
  intro law0_Spans_L0 ih50
  rintro ⟨a, b, i⟩ r h
  dsimp only at h ⊢
  by_cases h1 : (decide (i < (a.l.length : Int))) = true
  rw [if_pos h1] at h
  obtain ⟨x3, h2, h⟩ := Option.bind_eq_some_iff.1 h
  have f1 := geti_nat h2 IntKind.i64
  have f2 := geti_map T.Span.enc h2
  try simp only [T.Span.enc_eq, encx.down, Nat.zero_add, Nat.reduceAdd] at f2
  have f3 := geti_szcT h2 2
  obtain ⟨x5, h4, h⟩ := Option.bind_eq_some_iff.1 h
  have f4 := geti_nat h4 IntKind.i64
  have f5 := geti_map T.Span.enc h4
  try simp only [T.Span.enc_eq, encx.down, Nat.zero_add, Nat.reduceAdd] at f5
  have f6 := geti_szcT h4 2
  by_cases h6 : (!(x3.frm == x5.frm && (x3.to == x5.to))) = true
  rw [if_pos h6] at h
  cases h
  show _ = some (law0_Spans_L0_enc (.inl _))
  dsimp only [law0_Spans_L0_enc]
  clear ih50
  rotate_left
  rw [if_neg h6] at h; replace h6 := Bool.eq_false_iff.2 h6
  have f7 := ih50 _ _ h
  try dsimp only at f7
  try simp only [T.Span.enc_eq, encx.down, Nat.zero_add, Nat.reduceAdd] at f7
  clear h
  clear ih50
  rotate_left
  rw [if_neg h1] at h; replace h1 := Bool.eq_false_iff.2 h1
  cases h
  show _ = some (law0_Spans_L0_enc (.inr _))
  dsimp only [law0_Spans_L0_enc]
  clear ih50
  rotate_left
  all_goals
    refine omega_L fn21 (by rfl) ?_
    simp (disch := first | assumption | rfl | exact Sure.mk (by kernel_rfl)) only [coreG.down, tab.down, ↓reduceIte, Nat.reduceLeDiff, Nat.reduceEqDiff, Nat.reduceLT, Nat.reduceAdd, Nat.reduceSub, Nat.reduceMul, reduceCtorEq, Nat.reducePow, needs, aop, aBin, intBin, aLoad, List.toList_toArray, avOf, pvOf, allPV, List.take, List.drop, List.length_cons, List.length_nil, List.length_map, aStore, AV.stor, AV.cells, List.append, aFieldAddr, List.getElem?_cons_zero, List.getElem?_cons_succ, subHeap, AV.refs, AV.ren, AV.rows, if_true, if_false, List.nil_append, List.append_nil, List.cons_append, tupled, unz, aBuiltin, lenTd, aLen, ptrRows, List.getElem?_nil, touched, List.isEmpty_nil, Option.some.injEq, aUn, pure?, PV.cells, List.replicate, List.set_cons_zero, List.set_cons_succ, aConvert, strBin, sliceOf, eq_self, AV.thaw, Blk.thaw, aSlice, aNil, isNilV, aEq, plainEq, fitAll, keyFits, aMax, maxFrom, aPart, Blk.ren, Blk.refs, List.flatMap_nil, List.flatMap_cons, List.map_cons, List.map_nil, List.drop_zero, Option.isSome_none, Option.isNone_none, Option.isSome_some, Option.isNone_some, sp21_0, T.Span.enc_eq, *]
set_option maxHeartbeats 4000000 in
theorem law0_Spans_ok {a : (Sl T.Span)} {b : (Sl T.Span)} {r : (Bool)} (h : law0_Spans a b = some r) :
    O.call 21 [AV.pv (PV.sl a.nil (szc 2 a.l) (List.map T.Span.enc a.l)), AV.pv (PV.sl b.nil (szc 2 b.l) (List.map T.Span.enc b.l))] [] = some (AV.pv (PV.bool r), []) := by
  unfold law0_Spans at h
  by_cases h1 : ((a.l.length : Int) != (b.l.length : Int)) = true
  rw [if_pos h1] at h
  cases h
  rotate_left
  rw [if_neg h1] at h; replace h1 := Bool.eq_false_iff.2 h1
  obtain ⟨v3, h2, h⟩ := Option.bind_eq_some_iff.1 h
  have f1 := law0_Spans_L0_ok h2
  try simp only [T.Span.enc_eq, encx.down, Nat.zero_add, Nat.reduceAdd] at f1
  rcases v3 with y4 | y5
  dsimp only at h
  simp only [law0_Spans_L0_enc, T.Span.enc_eq, encx.down, Nat.zero_add, Nat.reduceAdd] at f1
  cases h
  rotate_left
  dsimp only at h
  simp only [law0_Spans_L0_enc, T.Span.enc_eq, encx.down, Nat.zero_add, Nat.reduceAdd] at f1
  cases h
  rotate_left
  all_goals
    refine omega_F rfl fn21 (by rfl) (by rfl) rfl ?_
    simp (disch := first | assumption | rfl | exact Sure.mk (by kernel_rfl)) only [coreG.down, tab.down, ↓reduceIte, Nat.reduceLeDiff, Nat.reduceEqDiff, Nat.reduceLT, Nat.reduceAdd, Nat.reduceSub, Nat.reduceMul, reduceCtorEq, Nat.reducePow, needs, aop, aBin, intBin, aLoad, List.toList_toArray, avOf, pvOf, allPV, List.take, List.drop, List.length_cons, List.length_nil, List.length_map, aStore, AV.stor, AV.cells, List.append, aFieldAddr, List.getElem?_cons_zero, List.getElem?_cons_succ, subHeap, AV.refs, AV.ren, AV.rows, if_true, if_false, List.nil_append, List.append_nil, List.cons_append, tupled, unz, aBuiltin, lenTd, aLen, ptrRows, List.getElem?_nil, touched, List.isEmpty_nil, Option.some.injEq, aUn, pure?, PV.cells, List.replicate, List.set_cons_zero, List.set_cons_succ, aConvert, strBin, sliceOf, eq_self, AV.thaw, Blk.thaw, aSlice, aNil, isNilV, aEq, plainEq, fitAll, keyFits, aMax, maxFrom, aPart, Blk.ren, Blk.refs, List.flatMap_nil, List.flatMap_cons, List.map_cons, List.map_nil, List.drop_zero, Option.isSome_none, Option.isNone_none, Option.isSome_some, Option.isNone_some, sp21_0, T.Span.enc_eq, *]
set_option maxHeartbeats 4000000 in
theorem stops_Source_L0_ok {n : Int} {held : (Sl Bool)} {of : Int} {first : Int} {any_ : Int} {k : Int} {i : T.Inst} {r : (Int × Int × Int)} (h : stops_Source_L0 (n, held, of, first, any_, k, i) = some r) :
    O.loop 24 0 ⟨[(1, AV.pv (PV.int IntKind.i64 n)), (2, AV.pv (PV.sl held.nil (szc 1 held.l) (List.map boolE held.l))), (3, AV.ptr 0 0), (7, AV.pv (PV.int IntKind.i64 of)), (8, AV.pv (PV.int IntKind.i64 first)), (9, AV.pv (PV.int IntKind.i64 any_)), (10, AV.pv (PV.int IntKind.i64 k))], [(0, Blk.box (List.map AV.pv (T.Inst.enc i)))], 1⟩ = some (Ex.normal, ⟨[(7, AV.pv (PV.int IntKind.i64 r.1)), (8, AV.pv (PV.int IntKind.i64 r.2.1)), (9, AV.pv (PV.int IntKind.i64 r.2.2))], [(0, Blk.box (List.map AV.pv (T.Inst.enc i)))], 1⟩) := by
  refine stops_Source_L0.partial_correctness (fun p r => O.loop 24 0 ⟨[(1, AV.pv (PV.int IntKind.i64 p.1)), (2, AV.pv (PV.sl p.2.1.nil (szc 1 p.2.1.l) (List.map boolE p.2.1.l))), (3, AV.ptr 0 0), (7, AV.pv (PV.int IntKind.i64 p.2.2.1)), (8, AV.pv (PV.int IntKind.i64 p.2.2.2.1)), (9, AV.pv (PV.int IntKind.i64 p.2.2.2.2.1)), (10, AV.pv (PV.int IntKind.i64 p.2.2.2.2.2.1))], [(0, Blk.box (List.map AV.pv (T.Inst.enc p.2.2.2.2.2.2)))], 1⟩ = some (Ex.normal, ⟨[(7, AV.pv (PV.int IntKind.i64 r.1)), (8, AV.pv (PV.int IntKind.i64 r.2.1)), (9, AV.pv (PV.int IntKind.i64 r.2.2))], [(0, Blk.box (List.map AV.pv (T.Inst.enc p.2.2.2.2.2.2)))], 1⟩)) ?_ (n, held, of, first, any_, k, i) r h
  clear h r n held of first any_ k i
  intro stops_Source_L0 ih53
  rintro ⟨n, held, of, first, any_, k, i⟩ r h
  dsimp only at h ⊢
  by_cases h1 : (decide (k ≥ (0 : Int))) = true
  rw [if_pos h1] at h
  obtain ⟨x3, h2, h⟩ := Option.bind_eq_some_iff.1 h
  have f1 := geti_nat h2 IntKind.i64
  have f2 := geti_map T.Stop.enc h2
  try simp only [T.Stop.enc_eq, encx.down, Nat.zero_add, Nat.reduceAdd] at f2
  have f3 := geti_szcT h2 18
  by_cases g4 : ((x3.n != n) || x3.turned) = true
  focus
    rw [if_pos g4] at h
    rcases (by intro u0 u1; cases u0 <;> cases u1 <;> simp [Dum] : ∀ u0 u1 : Bool, (u0 || u1) = true → (u0 = true ∧ Dum) ∨ (u0 = false ∧ u1 = true)) (x3.n != n) x3.turned g4 with ⟨h4, h5⟩ | ⟨h4, h5⟩
    clear g4
    all_goals
      have f5 := ih53 _ _ h
      try dsimp only at f5
      try simp only [T.Inst.enc_eq, boolE, encx.down, Nat.zero_add, Nat.reduceAdd] at f5
      clear h
      clear ih53
      rotate_left
  rotate_left 2
  rw [if_neg g4] at h; replace g4 := Bool.eq_false_iff.2 g4
  rcases (by intro u0 u1; cases u0 <;> cases u1 <;> simp [Dum] : ∀ u0 u1 : Bool, (u0 || u1) = false → (u0 = false ∧ u1 = false)) (x3.n != n) x3.turned g4 with ⟨h4, h5⟩
  clear g4
  by_cases h6 : x3.first = true
  rw [if_pos h6] at h
  by_cases h7 : (decide (k < (held.l.length : Int))) = true
  rw [if_pos h7] at h
  obtain ⟨x9, h8, h⟩ := Option.bind_eq_some_iff.1 h
  have f6 := geti_nat h8 IntKind.i64
  have f7 := geti_map boolE h8
  try simp only [boolE, encx.down, Nat.zero_add, Nat.reduceAdd] at f7
  have f8 := geti_szcT h8 1
  by_cases h10 : x9 = true
  rw [if_pos h10] at h
  have f9 := ih53 _ _ h
  try dsimp only at f9
  try simp only [T.Inst.enc_eq, boolE, encx.down, Nat.zero_add, Nat.reduceAdd] at f9
  clear h
  clear ih53
  rotate_left
  rw [if_neg h10] at h; replace h10 := Bool.eq_false_iff.2 h10
  have f10 := ih53 _ _ h
  try dsimp only at f10
  try simp only [T.Inst.enc_eq, boolE, encx.down, Nat.zero_add, Nat.reduceAdd] at f10
  clear h
  clear ih53
  rotate_left
  rw [if_neg h7] at h; replace h7 := Bool.eq_false_iff.2 h7
  have f11 := ih53 _ _ h
  try dsimp only at f11
  try simp only [T.Inst.enc_eq, boolE, encx.down, Nat.zero_add, Nat.reduceAdd] at f11
  clear h
  clear ih53
  rotate_left
  rw [if_neg h6] at h; replace h6 := Bool.eq_false_iff.2 h6
  by_cases h11 : (decide (k < (held.l.length : Int))) = true
  rw [if_pos h11] at h
  obtain ⟨x13, h12, h⟩ := Option.bind_eq_some_iff.1 h
  have f12 := geti_nat h12 IntKind.i64
  have f13 := geti_map boolE h12
  try simp only [boolE, encx.down, Nat.zero_add, Nat.reduceAdd] at f13
  have f14 := geti_szcT h12 1
  by_cases h14 : x13 = true
  rw [if_pos h14] at h
  have f15 := ih53 _ _ h
  try dsimp only at f15
  try simp only [T.Inst.enc_eq, boolE, encx.down, Nat.zero_add, Nat.reduceAdd] at f15
  clear h
  clear ih53
  rotate_left
  rw [if_neg h14] at h; replace h14 := Bool.eq_false_iff.2 h14
  have f16 := ih53 _ _ h
  try dsimp only at f16
  try simp only [T.Inst.enc_eq, boolE, encx.down, Nat.zero_add, Nat.reduceAdd] at f16
  clear h
  clear ih53
  rotate_left
  rw [if_neg h11] at h; replace h11 := Bool.eq_false_iff.2 h11
  have f17 := ih53 _ _ h
  try dsimp only at f17
  try simp only [T.Inst.enc_eq, boolE, encx.down, Nat.zero_add, Nat.reduceAdd] at f17
  clear h
  clear ih53
  rotate_left
  rw [if_neg h1] at h; replace h1 := Bool.eq_false_iff.2 h1
  cases h
  clear ih53
  rotate_left
  all_goals
    refine omega_L fn24 (by rfl) ?_
    simp (disch := first | assumption | rfl | exact Sure.mk (by kernel_rfl)) only [coreG.down, tab.down, ↓reduceIte, Nat.reduceLeDiff, Nat.reduceEqDiff, Nat.reduceLT, Nat.reduceAdd, Nat.reduceSub, Nat.reduceMul, reduceCtorEq, Nat.reducePow, needs, aop, aBin, intBin, aLoad, List.toList_toArray, avOf, pvOf, allPV, List.take, List.drop, List.length_cons, List.length_nil, List.length_map, aStore, AV.stor, AV.cells, List.append, aFieldAddr, List.getElem?_cons_zero, List.getElem?_cons_succ, subHeap, AV.refs, AV.ren, AV.rows, if_true, if_false, List.nil_append, List.append_nil, List.cons_append, tupled, unz, aBuiltin, lenTd, aLen, ptrRows, List.getElem?_nil, touched, List.isEmpty_nil, Option.some.injEq, aUn, pure?, PV.cells, List.replicate, List.set_cons_zero, List.set_cons_succ, aConvert, strBin, sliceOf, eq_self, AV.thaw, Blk.thaw, aSlice, aNil, isNilV, aEq, plainEq, fitAll, keyFits, aMax, maxFrom, aPart, Blk.ren, Blk.refs, List.flatMap_nil, List.flatMap_cons, List.map_cons, List.map_nil, List.drop_zero, Option.isSome_none, Option.isNone_none, Option.isSome_some, Option.isNone_some, sp24_0, T.Inst.enc_eq, boolE, *]
set_option maxHeartbeats 4000000 in
theorem stops_Source_ok {i : T.Inst} {n : Int} {held : (Sl Bool)} {r : (Int)} (h : stops_Source i n held = some r) :
    O.call 24 [AV.pv (PV.agg (T.Inst.enc i)), AV.pv (PV.int IntKind.i64 n), AV.pv (PV.sl held.nil (szc 1 held.l) (List.map boolE held.l))] [] = some (AV.pv (PV.int IntKind.i64 r), []) := by
  unfold stops_Source at h
  obtain ⟨v2, h1, h⟩ := Option.bind_eq_some_iff.1 h
  have f1 := stops_Source_L0_ok h1
  try simp only [T.Inst.enc_eq, boolE, encx.down, Nat.zero_add, Nat.reduceAdd] at f1
  by_cases h3 : (decide (v2.1 ≥ (0 : Int))) = true
  rw [if_pos h3] at h
  cases h
  rotate_left
  rw [if_neg h3] at h; replace h3 := Bool.eq_false_iff.2 h3
  by_cases h4 : (decide (v2.2.1 ≥ (0 : Int))) = true
  rw [if_pos h4] at h
  cases h
  rotate_left
  rw [if_neg h4] at h; replace h4 := Bool.eq_false_iff.2 h4
  cases h
  rotate_left
  all_goals
    refine omega_F rfl fn24 (by rfl) (by rfl) rfl ?_
    simp (disch := first | assumption | rfl | exact Sure.mk (by kernel_rfl)) only [coreG.down, tab.down, ↓reduceIte, Nat.reduceLeDiff, Nat.reduceEqDiff, Nat.reduceLT, Nat.reduceAdd, Nat.reduceSub, Nat.reduceMul, reduceCtorEq, Nat.reducePow, needs, aop, aBin, intBin, aLoad, List.toList_toArray, avOf, pvOf, allPV, List.take, List.drop, List.length_cons, List.length_nil, List.length_map, aStore, AV.stor, AV.cells, List.append, aFieldAddr, List.getElem?_cons_zero, List.getElem?_cons_succ, subHeap, AV.refs, AV.ren, AV.rows, if_true, if_false, List.nil_append, List.append_nil, List.cons_append, tupled, unz, aBuiltin, lenTd, aLen, ptrRows, List.getElem?_nil, touched, List.isEmpty_nil, Option.some.injEq, aUn, pure?, PV.cells, List.replicate, List.set_cons_zero, List.set_cons_succ, aConvert, strBin, sliceOf, eq_self, AV.thaw, Blk.thaw, aSlice, aNil, isNilV, aEq, plainEq, fitAll, keyFits, aMax, maxFrom, aPart, Blk.ren, Blk.refs, List.flatMap_nil, List.flatMap_cons, List.map_cons, List.map_nil, List.drop_zero, Option.isSome_none, Option.isNone_none, Option.isSome_some, Option.isNone_some, sp24_0, T.Inst.enc_eq, boolE, *]
def ref26_Source_L0_enc (i : T.Inst) : ((Int × Int × Int) ⊕ (Int × Int)) → Ex × St
  | .inl y => (Ex.ret, ⟨[(6, AV.pv (PV.int IntKind.i64 y.1)), (7, AV.pv (PV.int IntKind.i64 y.2.1)), (8, AV.pv (PV.int IntKind.i64 y.2.2))], [(0, Blk.box (List.map AV.pv (T.Inst.enc i)))], 1⟩)
  | .inr y => (Ex.normal, ⟨[(6, AV.undef), (7, AV.pv (PV.int IntKind.i64 y.1)), (8, AV.pv (PV.int IntKind.i64 y.2))], [(0, Blk.box (List.map AV.pv (T.Inst.enc i)))], 1⟩)
set_option maxHeartbeats 4000000 in
theorem ref26_Source_L0_ok {n : Int} {held : (Sl Bool)} {first : Int} {any_ : Int} {k : Int} {i : T.Inst} {r : ((Int × Int × Int) ⊕ (Int × Int))} (h : ref26_Source_L0 (n, held, first, any_, k, i) = some r) :
    O.loop 25 0 ⟨[(1, AV.pv (PV.int IntKind.i64 n)), (2, AV.pv (PV.sl held.nil (szc 1 held.l) (List.map boolE held.l))), (3, AV.ptr 0 0), (7, AV.pv (PV.int IntKind.i64 first)), (8, AV.pv (PV.int IntKind.i64 any_)), (9, AV.pv (PV.int IntKind.i64 k))], [(0, Blk.box (List.map AV.pv (T.Inst.enc i)))], 1⟩ = some (ref26_Source_L0_enc i r) := by
  refine ref26_Source_L0.partial_correctness (fun p r => O.loop 25 0 ⟨[(1, AV.pv (PV.int IntKind.i64 p.1)), (2, AV.pv (PV.sl p.2.1.nil (szc 1 p.2.1.l) (List.map boolE p.2.1.l))), (3, AV.ptr 0 0), (7, AV.pv (PV.int IntKind.i64 p.2.2.1)), (8, AV.pv (PV.int IntKind.i64 p.2.2.2.1)), (9, AV.pv (PV.int IntKind.i64 p.2.2.2.2.1))], [(0, Blk.box (List.map AV.pv (T.Inst.enc p.2.2.2.2.2)))], 1⟩ = some (ref26_Source_L0_enc p.2.2.2.2.2 r)) ?_ (n, held, first, any_, k, i) r h
  clear h r n held first any_ k i
  intro ref26_Source_L0 ih55
  rintro ⟨n, held, first, any_, k, i⟩ r h
  dsimp only at h ⊢
  by_cases h1 : (decide (k < (i.stops.l.length : Int))) = true
  rw [if_pos h1] at h
  obtain ⟨x3, h2, h⟩ := Option.bind_eq_some_iff.1 h
  have f1 := geti_nat h2 IntKind.i64
  have f2 := geti_map T.Stop.enc h2
  try simp only [T.Stop.enc_eq, encx.down, Nat.zero_add, Nat.reduceAdd] at f2
  have f3 := geti_szcT h2 18
  by_cases g4 : ((x3.n != n) || x3.turned) = true
  focus
    rw [if_pos g4] at h
    rcases (by intro u0 u1; cases u0 <;> cases u1 <;> simp [Dum] : ∀ u0 u1 : Bool, (u0 || u1) = true → (u0 = true ∧ Dum) ∨ (u0 = false ∧ u1 = true)) (x3.n != n) x3.turned g4 with ⟨h4, h5⟩ | ⟨h4, h5⟩
    clear g4
    all_goals
      have f5 := ih55 _ _ h
      try dsimp only at f5
      try simp only [T.Inst.enc_eq, boolE, encx.down, Nat.zero_add, Nat.reduceAdd] at f5
      clear h
      clear ih55
      rotate_left
  rotate_left 2
  rw [if_neg g4] at h; replace g4 := Bool.eq_false_iff.2 g4
  rcases (by intro u0 u1; cases u0 <;> cases u1 <;> simp [Dum] : ∀ u0 u1 : Bool, (u0 || u1) = false → (u0 = false ∧ u1 = false)) (x3.n != n) x3.turned g4 with ⟨h4, h5⟩
  clear g4
  by_cases h6 : (decide (k < (held.l.length : Int))) = true
  rw [if_pos h6] at h
  obtain ⟨x8, h7, h⟩ := Option.bind_eq_some_iff.1 h
  have f6 := geti_nat h7 IntKind.i64
  have f7 := geti_map boolE h7
  try simp only [boolE, encx.down, Nat.zero_add, Nat.reduceAdd] at f7
  have f8 := geti_szcT h7 1
  by_cases h9 : x8 = true
  rw [if_pos h9] at h
  cases h
  show _ = some (ref26_Source_L0_enc _ (.inl _))
  dsimp only [ref26_Source_L0_enc]
  clear ih55
  rotate_left
  rw [if_neg h9] at h; replace h9 := Bool.eq_false_iff.2 h9
  by_cases g9 : ((decide (first < (0 : Int))) && x3.first) = true
  rw [if_pos g9] at h
  rcases (by intro u0 u1; cases u0 <;> cases u1 <;> simp [Dum] : ∀ u0 u1 : Bool, (u0 && u1) = true → (u0 = true ∧ u1 = true)) (decide (first < (0 : Int))) x3.first g9 with ⟨h10, h11⟩
  clear g9
  by_cases h12 : (decide (any_ < (0 : Int))) = true
  rw [if_pos h12] at h
  have f10 := ih55 _ _ h
  try dsimp only at f10
  try simp only [T.Inst.enc_eq, boolE, encx.down, Nat.zero_add, Nat.reduceAdd] at f10
  clear h
  clear ih55
  rotate_left
  rw [if_neg h12] at h; replace h12 := Bool.eq_false_iff.2 h12
  have f11 := ih55 _ _ h
  try dsimp only at f11
  try simp only [T.Inst.enc_eq, boolE, encx.down, Nat.zero_add, Nat.reduceAdd] at f11
  clear h
  clear ih55
  rotate_left
  focus
    rw [if_neg g9] at h; replace g9 := Bool.eq_false_iff.2 g9
    rcases (by intro u0 u1; cases u0 <;> cases u1 <;> simp [Dum] : ∀ u0 u1 : Bool, (u0 && u1) = false → (u0 = false ∧ Dum) ∨ (u0 = true ∧ u1 = false)) (decide (first < (0 : Int))) x3.first g9 with ⟨h10, h11⟩ | ⟨h10, h11⟩
    clear g9
    all_goals
      by_cases h14 : (decide (any_ < (0 : Int))) = true
      rw [if_pos h14] at h
      have f12 := ih55 _ _ h
      try dsimp only at f12
      try simp only [T.Inst.enc_eq, boolE, encx.down, Nat.zero_add, Nat.reduceAdd] at f12
      clear h
      clear ih55
      rotate_left
      rw [if_neg h14] at h; replace h14 := Bool.eq_false_iff.2 h14
      have f13 := ih55 _ _ h
      try dsimp only at f13
      try simp only [T.Inst.enc_eq, boolE, encx.down, Nat.zero_add, Nat.reduceAdd] at f13
      clear h
      clear ih55
      rotate_left
  rotate_left 4
  rw [if_neg h6] at h; replace h6 := Bool.eq_false_iff.2 h6
  by_cases g14 : ((decide (first < (0 : Int))) && x3.first) = true
  rw [if_pos g14] at h
  rcases (by intro u0 u1; cases u0 <;> cases u1 <;> simp [Dum] : ∀ u0 u1 : Bool, (u0 && u1) = true → (u0 = true ∧ u1 = true)) (decide (first < (0 : Int))) x3.first g14 with ⟨h15, h16⟩
  clear g14
  by_cases h17 : (decide (any_ < (0 : Int))) = true
  rw [if_pos h17] at h
  have f15 := ih55 _ _ h
  try dsimp only at f15
  try simp only [T.Inst.enc_eq, boolE, encx.down, Nat.zero_add, Nat.reduceAdd] at f15
  clear h
  clear ih55
  rotate_left
  rw [if_neg h17] at h; replace h17 := Bool.eq_false_iff.2 h17
  have f16 := ih55 _ _ h
  try dsimp only at f16
  try simp only [T.Inst.enc_eq, boolE, encx.down, Nat.zero_add, Nat.reduceAdd] at f16
  clear h
  clear ih55
  rotate_left
  focus
    rw [if_neg g14] at h; replace g14 := Bool.eq_false_iff.2 g14
    rcases (by intro u0 u1; cases u0 <;> cases u1 <;> simp [Dum] : ∀ u0 u1 : Bool, (u0 && u1) = false → (u0 = false ∧ Dum) ∨ (u0 = true ∧ u1 = false)) (decide (first < (0 : Int))) x3.first g14 with ⟨h15, h16⟩ | ⟨h15, h16⟩
    clear g14
    all_goals
      by_cases h19 : (decide (any_ < (0 : Int))) = true
      rw [if_pos h19] at h
      have f17 := ih55 _ _ h
      try dsimp only at f17
      try simp only [T.Inst.enc_eq, boolE, encx.down, Nat.zero_add, Nat.reduceAdd] at f17
      clear h
      clear ih55
      rotate_left
      rw [if_neg h19] at h; replace h19 := Bool.eq_false_iff.2 h19
      have f18 := ih55 _ _ h
      try dsimp only at f18
      try simp only [T.Inst.enc_eq, boolE, encx.down, Nat.zero_add, Nat.reduceAdd] at f18
      clear h
      clear ih55
      rotate_left
  rotate_left 4
  rw [if_neg h1] at h; replace h1 := Bool.eq_false_iff.2 h1
  cases h
  show _ = some (ref26_Source_L0_enc _ (.inr _))
  dsimp only [ref26_Source_L0_enc]
  clear ih55
  rotate_left
  all_goals
    refine omega_L fn25 (by rfl) ?_
    simp (disch := first | assumption | rfl | exact Sure.mk (by kernel_rfl)) only [coreG.down, tab.down, ↓reduceIte, Nat.reduceLeDiff, Nat.reduceEqDiff, Nat.reduceLT, Nat.reduceAdd, Nat.reduceSub, Nat.reduceMul, reduceCtorEq, Nat.reducePow, needs, aop, aBin, intBin, aLoad, List.toList_toArray, avOf, pvOf, allPV, List.take, List.drop, List.length_cons, List.length_nil, List.length_map, aStore, AV.stor, AV.cells, List.append, aFieldAddr, List.getElem?_cons_zero, List.getElem?_cons_succ, subHeap, AV.refs, AV.ren, AV.rows, if_true, if_false, List.nil_append, List.append_nil, List.cons_append, tupled, unz, aBuiltin, lenTd, aLen, ptrRows, List.getElem?_nil, touched, List.isEmpty_nil, Option.some.injEq, aUn, pure?, PV.cells, List.replicate, List.set_cons_zero, List.set_cons_succ, aConvert, strBin, sliceOf, eq_self, AV.thaw, Blk.thaw, aSlice, aNil, isNilV, aEq, plainEq, fitAll, keyFits, aMax, maxFrom, aPart, Blk.ren, Blk.refs, List.flatMap_nil, List.flatMap_cons, List.map_cons, List.map_nil, List.drop_zero, Option.isSome_none, Option.isNone_none, Option.isSome_some, Option.isNone_some, sp25_0, T.Inst.enc_eq, boolE, *]
set_option maxHeartbeats 4000000 in
theorem ref26_Source_ok {i : T.Inst} {n : Int} {held : (Sl Bool)} {r : (Int)} (h : ref26_Source i n held = some r) :
    O.call 25 [AV.pv (PV.agg (T.Inst.enc i)), AV.pv (PV.int IntKind.i64 n), AV.pv (PV.sl held.nil (szc 1 held.l) (List.map boolE held.l))] [] = some (AV.pv (PV.int IntKind.i64 r), []) := by
  unfold ref26_Source at h
  obtain ⟨v2, h1, h⟩ := Option.bind_eq_some_iff.1 h
  have f1 := ref26_Source_L0_ok h1
  try simp only [T.Inst.enc_eq, boolE, encx.down, Nat.zero_add, Nat.reduceAdd] at f1
  rcases v2 with y3 | y4
  dsimp only at h
  simp only [ref26_Source_L0_enc, T.Inst.enc_eq, boolE, encx.down, Nat.zero_add, Nat.reduceAdd] at f1
  cases h
  rotate_left
  dsimp only at h
  simp only [ref26_Source_L0_enc, T.Inst.enc_eq, boolE, encx.down, Nat.zero_add, Nat.reduceAdd] at f1
  by_cases h5 : (decide (y4.1 ≥ (0 : Int))) = true
  rw [if_pos h5] at h
  cases h
  rotate_left
  rw [if_neg h5] at h; replace h5 := Bool.eq_false_iff.2 h5
  cases h
  rotate_left
  all_goals
    refine omega_F rfl fn25 (by rfl) (by rfl) rfl ?_
    simp (disch := first | assumption | rfl | exact Sure.mk (by kernel_rfl)) only [coreG.down, tab.down, ↓reduceIte, Nat.reduceLeDiff, Nat.reduceEqDiff, Nat.reduceLT, Nat.reduceAdd, Nat.reduceSub, Nat.reduceMul, reduceCtorEq, Nat.reducePow, needs, aop, aBin, intBin, aLoad, List.toList_toArray, avOf, pvOf, allPV, List.take, List.drop, List.length_cons, List.length_nil, List.length_map, aStore, AV.stor, AV.cells, List.append, aFieldAddr, List.getElem?_cons_zero, List.getElem?_cons_succ, subHeap, AV.refs, AV.ren, AV.rows, if_true, if_false, List.nil_append, List.append_nil, List.cons_append, tupled, unz, aBuiltin, lenTd, aLen, ptrRows, List.getElem?_nil, touched, List.isEmpty_nil, Option.some.injEq, aUn, pure?, PV.cells, List.replicate, List.set_cons_zero, List.set_cons_succ, aConvert, strBin, sliceOf, eq_self, AV.thaw, Blk.thaw, aSlice, aNil, isNilV, aEq, plainEq, fitAll, keyFits, aMax, maxFrom, aPart, Blk.ren, Blk.refs, List.flatMap_nil, List.flatMap_cons, List.map_cons, List.map_nil, List.drop_zero, Option.isSome_none, Option.isNone_none, Option.isSome_some, Option.isNone_some, sp25_0, T.Inst.enc_eq, boolE, *]
def law26_StopsTell_L2_enc (is : (Sl T.Inst)) (cur : Int) (held : (Sl Bool)) (i : Int) : ((Bool) ⊕ (Unit)) → Ex × St
  | .inl y => (Ex.ret, ⟨[(0, AV.pv (PV.sl is.nil (szc 3 is.l) (List.map T.Inst.enc is.l))), (1, AV.pv (PV.int IntKind.i64 cur)), (2, AV.pv (PV.sl held.nil (szc 1 held.l) (List.map boolE held.l))), (6, AV.pv (PV.bool y)), (15, AV.pv (PV.int IntKind.i64 i))], [(0, Blk.dead)], 1⟩)
  | .inr y => (Ex.normal, ⟨[(0, AV.pv (PV.sl is.nil (szc 3 is.l) (List.map T.Inst.enc is.l))), (1, AV.pv (PV.int IntKind.i64 cur)), (2, AV.pv (PV.sl held.nil (szc 1 held.l) (List.map boolE held.l))), (6, AV.undef), (15, AV.pv (PV.int IntKind.i64 i))], [(0, Blk.dead)], 1⟩)
set_option maxHeartbeats 4000000 in
theorem law26_StopsTell_L2_ok {is : (Sl T.Inst)} {cur : Int} {held : (Sl Bool)} {i : Int} {k : Int} {r : ((Bool) ⊕ (Unit))} (h : law26_StopsTell_L2 (is, cur, held, i, k) = some r) :
    O.loop 5 2 ⟨[(0, AV.pv (PV.sl is.nil (szc 3 is.l) (List.map T.Inst.enc is.l))), (1, AV.pv (PV.int IntKind.i64 cur)), (2, AV.pv (PV.sl held.nil (szc 1 held.l) (List.map boolE held.l))), (15, AV.pv (PV.int IntKind.i64 i)), (16, AV.pv (PV.int IntKind.i64 k))], [(0, Blk.dead)], 1⟩ = some (law26_StopsTell_L2_enc is cur held i r) := by
  refine law26_StopsTell_L2.partial_correctness (fun p r => O.loop 5 2 ⟨[(0, AV.pv (PV.sl p.1.nil (szc 3 p.1.l) (List.map T.Inst.enc p.1.l))), (1, AV.pv (PV.int IntKind.i64 p.2.1)), (2, AV.pv (PV.sl p.2.2.1.nil (szc 1 p.2.2.1.l) (List.map boolE p.2.2.1.l))), (15, AV.pv (PV.int IntKind.i64 p.2.2.2.1)), (16, AV.pv (PV.int IntKind.i64 p.2.2.2.2))], [(0, Blk.dead)], 1⟩ = some (law26_StopsTell_L2_enc p.1 p.2.1 p.2.2.1 p.2.2.2.1 r)) ?_ (is, cur, held, i, k) r h
  clear h r is cur held i k
  intro law26_StopsTell_L2 ih56
  rintro ⟨is, cur, held, i, k⟩ r h
  dsimp only at h ⊢
  obtain ⟨x2, h1, h⟩ := Option.bind_eq_some_iff.1 h
  have f1 := geti_nat h1 IntKind.i64
  have f2 := geti_map T.Inst.enc h1
  try simp only [T.Inst.enc_eq, encx.down, Nat.zero_add, Nat.reduceAdd] at f2
  have f3 := geti_szcT h1 3
  by_cases h3 : (decide (k < (x2.stops.l.length : Int))) = true
  rw [if_pos h3] at h
  obtain ⟨x5, h4, h⟩ := Option.bind_eq_some_iff.1 h
  have f4 := geti_nat h4 IntKind.i64
  have f5 := geti_map T.Stop.enc h4
  try simp only [T.Stop.enc_eq, encx.down, Nat.zero_add, Nat.reduceAdd] at f5
  have f6 := geti_szcT h4 18
  obtain ⟨v7, h6, h⟩ := Option.bind_eq_some_iff.1 h
  have f7 := stops_Source_ok h6
  try simp only [T.Inst.enc_eq, boolE, encx.down, Nat.zero_add, Nat.reduceAdd] at f7
  obtain ⟨v9, h8, h⟩ := Option.bind_eq_some_iff.1 h
  have f8 := ref26_Source_ok h8
  try simp only [T.Inst.enc_eq, boolE, encx.down, Nat.zero_add, Nat.reduceAdd] at f8
  by_cases h10 : (v7 != v9) = true
  rw [if_pos h10] at h
  cases h
  show _ = some (law26_StopsTell_L2_enc _ _ _ _ (.inl _))
  dsimp only [law26_StopsTell_L2_enc]
  clear ih56
  rotate_left
  rw [if_neg h10] at h; replace h10 := Bool.eq_false_iff.2 h10
  have f9 := ih56 _ _ h
  try dsimp only at f9
  try simp only [T.Inst.enc_eq, boolE, encx.down, Nat.zero_add, Nat.reduceAdd] at f9
  clear h
  clear ih56
  rotate_left
  rw [if_neg h3] at h; replace h3 := Bool.eq_false_iff.2 h3
  cases h
  show _ = some (law26_StopsTell_L2_enc _ _ _ _ (.inr _))
  dsimp only [law26_StopsTell_L2_enc]
  clear ih56
  rotate_left
  all_goals
    refine omega_L fn5 (by rfl) ?_
    simp (disch := first | assumption | rfl | exact Sure.mk (by kernel_rfl)) only [coreG.down, tab.down, ↓reduceIte, Nat.reduceLeDiff, Nat.reduceEqDiff, Nat.reduceLT, Nat.reduceAdd, Nat.reduceSub, Nat.reduceMul, reduceCtorEq, Nat.reducePow, needs, aop, aBin, intBin, aLoad, List.toList_toArray, avOf, pvOf, allPV, List.take, List.drop, List.length_cons, List.length_nil, List.length_map, aStore, AV.stor, AV.cells, List.append, aFieldAddr, List.getElem?_cons_zero, List.getElem?_cons_succ, subHeap, AV.refs, AV.ren, AV.rows, if_true, if_false, List.nil_append, List.append_nil, List.cons_append, tupled, unz, aBuiltin, lenTd, aLen, ptrRows, List.getElem?_nil, touched, List.isEmpty_nil, Option.some.injEq, aUn, pure?, PV.cells, List.replicate, List.set_cons_zero, List.set_cons_succ, aConvert, strBin, sliceOf, eq_self, AV.thaw, Blk.thaw, aSlice, aNil, isNilV, aEq, plainEq, fitAll, keyFits, aMax, maxFrom, aPart, Blk.ren, Blk.refs, List.flatMap_nil, List.flatMap_cons, List.map_cons, List.map_nil, List.drop_zero, Option.isSome_none, Option.isNone_none, Option.isSome_some, Option.isNone_some, sp5_0, sp5_2, T.Inst.enc_eq, boolE, *]
def law26_StopsTell_L0_enc : ((Bool) ⊕ (Unit)) → Ex × St
  | .inl y => (Ex.ret, ⟨[(6, AV.pv (PV.bool y))], [(0, Blk.dead)], 1⟩)
  | .inr y => (Ex.normal, ⟨[(6, AV.undef)], [(0, Blk.dead)], 1⟩)
set_option maxHeartbeats 4000000 in
theorem law26_StopsTell_L0_ok {is : (Sl T.Inst)} {cur : Int} {held : (Sl Bool)} {i : Int} {r : ((Bool) ⊕ (Unit))} (h : law26_StopsTell_L0 (is, cur, held, i) = some r) :
    O.loop 5 0 ⟨[(0, AV.pv (PV.sl is.nil (szc 3 is.l) (List.map T.Inst.enc is.l))), (1, AV.pv (PV.int IntKind.i64 cur)), (2, AV.pv (PV.sl held.nil (szc 1 held.l) (List.map boolE held.l))), (15, AV.pv (PV.int IntKind.i64 i))], [(0, Blk.dead)], 1⟩ = some (law26_StopsTell_L0_enc r) := by
  refine law26_StopsTell_L0.partial_correctness (fun p r => O.loop 5 0 ⟨[(0, AV.pv (PV.sl p.1.nil (szc 3 p.1.l) (List.map T.Inst.enc p.1.l))), (1, AV.pv (PV.int IntKind.i64 p.2.1)), (2, AV.pv (PV.sl p.2.2.1.nil (szc 1 p.2.2.1.l) (List.map boolE p.2.2.1.l))), (15, AV.pv (PV.int IntKind.i64 p.2.2.2))], [(0, Blk.dead)], 1⟩ = some (law26_StopsTell_L0_enc r)) ?_ (is, cur, held, i) r h
  clear h r is cur held i
  intro law26_StopsTell_L0 ih51
  rintro ⟨is, cur, held, i⟩ r h
  dsimp only at h ⊢
  by_cases h1 : (decide (i < (is.l.length : Int))) = true
  rw [if_pos h1] at h
  obtain ⟨x3, h2, h⟩ := Option.bind_eq_some_iff.1 h
  have f1 := geti_nat h2 IntKind.i64
  have f2 := geti_map T.Inst.enc h2
  try simp only [T.Inst.enc_eq, encx.down, Nat.zero_add, Nat.reduceAdd] at f2
  have f3 := geti_szcT h2 3
  obtain ⟨v5, h4, h⟩ := Option.bind_eq_some_iff.1 h
  have f4 := stops_Source_ok h4
  try simp only [T.Inst.enc_eq, boolE, encx.down, Nat.zero_add, Nat.reduceAdd] at f4
  obtain ⟨v7, h6, h⟩ := Option.bind_eq_some_iff.1 h
  have f5 := ref26_Source_ok h6
  try simp only [T.Inst.enc_eq, boolE, encx.down, Nat.zero_add, Nat.reduceAdd] at f5
  by_cases h8 : (v5 != v7) = true
  rw [if_pos h8] at h
  cases h
  show _ = some (law26_StopsTell_L0_enc (.inl _))
  dsimp only [law26_StopsTell_L0_enc]
  clear ih51
  rotate_left
  rw [if_neg h8] at h; replace h8 := Bool.eq_false_iff.2 h8
  obtain ⟨v10, h9, h⟩ := Option.bind_eq_some_iff.1 h
  have f6 := law26_StopsTell_L2_ok h9
  try simp only [T.Inst.enc_eq, boolE, encx.down, Nat.zero_add, Nat.reduceAdd] at f6
  rcases v10 with y11 | y12
  dsimp only at h
  simp only [law26_StopsTell_L2_enc, T.Inst.enc_eq, boolE, encx.down, Nat.zero_add, Nat.reduceAdd] at f6
  cases h
  show _ = some (law26_StopsTell_L0_enc (.inl _))
  dsimp only [law26_StopsTell_L0_enc]
  clear ih51
  rotate_left
  dsimp only at h
  simp only [law26_StopsTell_L2_enc, T.Inst.enc_eq, boolE, encx.down, Nat.zero_add, Nat.reduceAdd] at f6
  have f7 := ih51 _ _ h
  try dsimp only at f7
  try simp only [T.Inst.enc_eq, boolE, encx.down, Nat.zero_add, Nat.reduceAdd] at f7
  clear h
  clear ih51
  rotate_left
  rw [if_neg h1] at h; replace h1 := Bool.eq_false_iff.2 h1
  cases h
  show _ = some (law26_StopsTell_L0_enc (.inr _))
  dsimp only [law26_StopsTell_L0_enc]
  clear ih51
  rotate_left
  all_goals
    refine omega_L fn5 (by rfl) ?_
    simp (disch := first | assumption | rfl | exact Sure.mk (by kernel_rfl)) only [coreG.down, tab.down, ↓reduceIte, Nat.reduceLeDiff, Nat.reduceEqDiff, Nat.reduceLT, Nat.reduceAdd, Nat.reduceSub, Nat.reduceMul, reduceCtorEq, Nat.reducePow, needs, aop, aBin, intBin, aLoad, List.toList_toArray, avOf, pvOf, allPV, List.take, List.drop, List.length_cons, List.length_nil, List.length_map, aStore, AV.stor, AV.cells, List.append, aFieldAddr, List.getElem?_cons_zero, List.getElem?_cons_succ, subHeap, AV.refs, AV.ren, AV.rows, if_true, if_false, List.nil_append, List.append_nil, List.cons_append, tupled, unz, aBuiltin, lenTd, aLen, ptrRows, List.getElem?_nil, touched, List.isEmpty_nil, Option.some.injEq, aUn, pure?, PV.cells, List.replicate, List.set_cons_zero, List.set_cons_succ, aConvert, strBin, sliceOf, eq_self, AV.thaw, Blk.thaw, aSlice, aNil, isNilV, aEq, plainEq, fitAll, keyFits, aMax, maxFrom, aPart, Blk.ren, Blk.refs, List.flatMap_nil, List.flatMap_cons, List.map_cons, List.map_nil, List.drop_zero, Option.isSome_none, Option.isNone_none, Option.isSome_some, Option.isNone_some, sp5_0, sp5_2, T.Inst.enc_eq, boolE, *]
set_option maxHeartbeats 4000000 in
theorem law26_StopsTell_ok {is : (Sl T.Inst)} {cur : Int} {held : (Sl Bool)} {r : (Bool)} (h : law26_StopsTell is cur held = some r) :
    O.call 5 [AV.pv (PV.sl is.nil (szc 3 is.l) (List.map T.Inst.enc is.l)), AV.pv (PV.int IntKind.i64 cur), AV.pv (PV.sl held.nil (szc 1 held.l) (List.map boolE held.l))] [] = some (AV.pv (PV.bool r), []) := by
  unfold law26_StopsTell at h
  obtain ⟨v2, h1, h⟩ := Option.bind_eq_some_iff.1 h
  have f1 := law26_much_ok h1
  try simp only [T.Inst.enc_eq, encx.down, Nat.zero_add, Nat.reduceAdd] at f1
  by_cases g2 : (v2 || (decide ((held.l.length : Int) > (30 : Int)))) = true
  focus
    rw [if_pos g2] at h
    rcases (by intro u0 u1; cases u0 <;> cases u1 <;> simp [Dum] : ∀ u0 u1 : Bool, (u0 || u1) = true → (u0 = true ∧ Dum) ∨ (u0 = false ∧ u1 = true)) v2 (decide ((held.l.length : Int) > (30 : Int))) g2 with ⟨h3, h6⟩ | ⟨h3, h6⟩
    clear g2
    all_goals
      obtain ⟨v5, h4, h⟩ := Option.bind_eq_some_iff.1 h
      have f3 := aw7_ok h4
      try simp only [encx.down, Nat.zero_add, Nat.reduceAdd] at f3
      try simp only [h3] at f1 f3
      cases h
      rotate_left
  rotate_left 2
  rw [if_neg g2] at h; replace g2 := Bool.eq_false_iff.2 g2
  rcases (by intro u0 u1; cases u0 <;> cases u1 <;> simp [Dum] : ∀ u0 u1 : Bool, (u0 || u1) = false → (u0 = false ∧ u1 = false)) v2 (decide ((held.l.length : Int) > (30 : Int))) g2 with ⟨h3, h6⟩
  clear g2
  obtain ⟨v10, h9, h⟩ := Option.bind_eq_some_iff.1 h
  have f4 := stops_Next_ok h9
  try simp only [T.Inst.enc_eq, encx.down, Nat.zero_add, Nat.reduceAdd] at f4
  obtain ⟨v12, h11, h⟩ := Option.bind_eq_some_iff.1 h
  have f5 := ref26_Next_ok h11
  try simp only [T.Inst.enc_eq, encx.down, Nat.zero_add, Nat.reduceAdd] at f5
  obtain ⟨v14, h13, h⟩ := Option.bind_eq_some_iff.1 h
  have f6 := stops_Prev_ok h13
  try simp only [T.Inst.enc_eq, encx.down, Nat.zero_add, Nat.reduceAdd] at f6
  obtain ⟨v16, h15, h⟩ := Option.bind_eq_some_iff.1 h
  have f7 := ref26_Prev_ok h15
  try simp only [T.Inst.enc_eq, encx.down, Nat.zero_add, Nat.reduceAdd] at f7
  obtain ⟨v18, h17, h⟩ := Option.bind_eq_some_iff.1 h
  have f8 := stops_Numbers_ok h17
  try simp only [T.Inst.enc_eq, intE, encx.down, Nat.zero_add, Nat.reduceAdd] at f8
  obtain ⟨v20, h19, h⟩ := Option.bind_eq_some_iff.1 h
  have f9 := ref26_Numbers_ok h19
  try simp only [T.Inst.enc_eq, intE, encx.down, Nat.zero_add, Nat.reduceAdd] at f9
  obtain ⟨v22, h21, h⟩ := Option.bind_eq_some_iff.1 h
  have f10 := law0_Ints_ok h21
  try simp only [intE, encx.down, Nat.zero_add, Nat.reduceAdd] at f10
  by_cases h23 : (!v22) = true
  rw [if_pos h23] at h
  try simp only [h3] at f1 f4 f5 f6 f7 f8 f9 f10
  cases h
  rotate_left
  rw [if_neg h23] at h; replace h23 := Bool.eq_false_iff.2 h23
  obtain ⟨v25, h24, h⟩ := Option.bind_eq_some_iff.1 h
  have f11 := stops_Spans_ok h24
  try simp only [T.Inst.enc_eq, T.Span.enc_eq, encx.down, Nat.zero_add, Nat.reduceAdd] at f11
  obtain ⟨v27, h26, h⟩ := Option.bind_eq_some_iff.1 h
  have f12 := ref26_Spans_ok h26
  try simp only [T.Inst.enc_eq, T.Span.enc_eq, encx.down, Nat.zero_add, Nat.reduceAdd] at f12
  obtain ⟨v29, h28, h⟩ := Option.bind_eq_some_iff.1 h
  have f13 := law0_Spans_ok h28
  try simp only [T.Span.enc_eq, encx.down, Nat.zero_add, Nat.reduceAdd] at f13
  by_cases g14 : ((!v29) || ((v10.1 != v12.1) || ((!(v10.2 == v12.2)) || ((v14.1 != v16.1) || (!(v14.2 == v16.2)))))) = true
  focus
    rw [if_pos g14] at h
    rcases (by intro u0 u1 u2 u3 u4; cases u0 <;> cases u1 <;> cases u2 <;> cases u3 <;> cases u4 <;> simp [Dum] : ∀ u0 u1 u2 u3 u4 : Bool, (u0 || (u1 || (u2 || (u3 || u4)))) = true → (u0 = true ∧ Dum ∧ Dum ∧ Dum ∧ Dum) ∨ (u0 = false ∧ u1 = true ∧ Dum ∧ Dum ∧ Dum) ∨ (u0 = false ∧ u1 = false ∧ u2 = true ∧ Dum ∧ Dum) ∨ (u0 = false ∧ u1 = false ∧ u2 = false ∧ u3 = true ∧ Dum) ∨ (u0 = false ∧ u1 = false ∧ u2 = false ∧ u3 = false ∧ u4 = true)) (!v29) (v10.1 != v12.1) (!(v10.2 == v12.2)) (v14.1 != v16.1) (!(v14.2 == v16.2)) g14 with ⟨h30, h31, h32, h33, h34⟩ | ⟨h30, h31, h32, h33, h34⟩ | ⟨h30, h31, h32, h33, h34⟩ | ⟨h30, h31, h32, h33, h34⟩ | ⟨h30, h31, h32, h33, h34⟩
    clear g14
    all_goals
      try simp only [h3] at f1 f4 f5 f6 f7 f8 f9 f10 f11 f12 f13
      cases h
      rotate_left
  rotate_left 5
  rw [if_neg g14] at h; replace g14 := Bool.eq_false_iff.2 g14
  rcases (by intro u0 u1 u2 u3 u4; cases u0 <;> cases u1 <;> cases u2 <;> cases u3 <;> cases u4 <;> simp [Dum] : ∀ u0 u1 u2 u3 u4 : Bool, (u0 || (u1 || (u2 || (u3 || u4)))) = false → (u0 = false ∧ u1 = false ∧ u2 = false ∧ u3 = false ∧ u4 = false)) (!v29) (v10.1 != v12.1) (!(v10.2 == v12.2)) (v14.1 != v16.1) (!(v14.2 == v16.2)) g14 with ⟨h30, h31, h32, h33, h34⟩
  clear g14
  obtain ⟨v36, h35, h⟩ := Option.bind_eq_some_iff.1 h
  have f15 := law26_StopsTell_L0_ok h35
  try simp only [T.Inst.enc_eq, boolE, encx.down, Nat.zero_add, Nat.reduceAdd] at f15
  rcases v36 with y37 | y38
  dsimp only at h
  simp only [law26_StopsTell_L0_enc, T.Inst.enc_eq, boolE, encx.down, Nat.zero_add, Nat.reduceAdd] at f15
  try simp only [h3] at f1 f4 f5 f6 f7 f8 f9 f10 f11 f12 f13 f15
  cases h
  rotate_left
  dsimp only at h
  simp only [law26_StopsTell_L0_enc, T.Inst.enc_eq, boolE, encx.down, Nat.zero_add, Nat.reduceAdd] at f15
  obtain ⟨v40, h39, h⟩ := Option.bind_eq_some_iff.1 h
  have f16 := aw7_ok h39
  try simp only [encx.down, Nat.zero_add, Nat.reduceAdd] at f16
  try simp only [h3] at f1 f4 f5 f6 f7 f8 f9 f10 f11 f12 f13 f15 f16
  cases h
  rotate_left
  all_goals
    refine omega_F rfl fn5 (by rfl) (by rfl) rfl ?_
    simp (disch := first | assumption | rfl | exact Sure.mk (by kernel_rfl)) only [coreG.down, tab.down, ↓reduceIte, Nat.reduceLeDiff, Nat.reduceEqDiff, Nat.reduceLT, Nat.reduceAdd, Nat.reduceSub, Nat.reduceMul, reduceCtorEq, Nat.reducePow, needs, aop, aBin, intBin, aLoad, List.toList_toArray, avOf, pvOf, allPV, List.take, List.drop, List.length_cons, List.length_nil, List.length_map, aStore, AV.stor, AV.cells, List.append, aFieldAddr, List.getElem?_cons_zero, List.getElem?_cons_succ, subHeap, AV.refs, AV.ren, AV.rows, if_true, if_false, List.nil_append, List.append_nil, List.cons_append, tupled, unz, aBuiltin, lenTd, aLen, ptrRows, List.getElem?_nil, touched, List.isEmpty_nil, Option.some.injEq, aUn, pure?, PV.cells, List.replicate, List.set_cons_zero, List.set_cons_succ, aConvert, strBin, sliceOf, eq_self, AV.thaw, Blk.thaw, aSlice, aNil, isNilV, aEq, plainEq, fitAll, keyFits, aMax, maxFrom, aPart, Blk.ren, Blk.refs, List.flatMap_nil, List.flatMap_cons, List.map_cons, List.map_nil, List.drop_zero, Option.isSome_none, Option.isNone_none, Option.isSome_some, Option.isNone_some, sp5_0, sp5_2, T.Inst.enc_eq, boolE, *]
def law26_StopsWalk_L0_enc (is : (Sl T.Inst)) (ns : (List Int)) : ((Bool) ⊕ (Unit)) → Ex × St
  | .inl y => (Ex.ret, ⟨[(0, AV.pv (PV.sl is.nil (szc 3 is.l) (List.map T.Inst.enc is.l))), (2, AV.pv (PV.bool y)), (3, AV.row 0 ns.length 0 ns.length)], [(0, Blk.row ns.isEmpty (szc 1 ns) (List.map intE ns))], 1⟩)
  | .inr y => (Ex.normal, ⟨[(0, AV.pv (PV.sl is.nil (szc 3 is.l) (List.map T.Inst.enc is.l))), (2, AV.undef), (3, AV.row 0 ns.length 0 ns.length)], [(0, Blk.row ns.isEmpty (szc 1 ns) (List.map intE ns))], 1⟩)
set_option maxHeartbeats 4000000 in
theorem law26_StopsWalk_L0_ok {is : (Sl T.Inst)} {i : Int} {ns : (List Int)} {r : ((Bool) ⊕ (Unit))} (h : law26_StopsWalk_L0 (is, i, ns) = some r) :
    O.loop 6 0 ⟨[(0, AV.pv (PV.sl is.nil (szc 3 is.l) (List.map T.Inst.enc is.l))), (3, AV.row 0 ns.length 0 ns.length), (4, AV.pv (PV.int IntKind.i64 i))], [(0, Blk.row ns.isEmpty (szc 1 ns) (List.map intE ns))], 1⟩ = some (law26_StopsWalk_L0_enc is ns r) := by
  refine law26_StopsWalk_L0.partial_correctness (fun p r => O.loop 6 0 ⟨[(0, AV.pv (PV.sl p.1.nil (szc 3 p.1.l) (List.map T.Inst.enc p.1.l))), (3, AV.row 0 p.2.2.length 0 p.2.2.length), (4, AV.pv (PV.int IntKind.i64 p.2.1))], [(0, Blk.row p.2.2.isEmpty (szc 1 p.2.2) (List.map intE p.2.2))], 1⟩ = some (law26_StopsWalk_L0_enc p.1 p.2.2 r)) ?_ (is, i, ns) r h
  clear h r is i ns
  intro law26_StopsWalk_L0 ih58
  rintro ⟨is, i, ns⟩ r h
  dsimp only at h ⊢
  by_cases h1 : (decide ((IntKind.i64.wrap (i + (1 : Int))) < (ns.length : Int))) = true
  rw [if_pos h1] at h
  obtain ⟨x3, h2, h⟩ := Option.bind_eq_some_iff.1 h
  have f1 := geti_nat h2 IntKind.i64
  have f2 := geti_map intE h2
  try simp only [intE, encx.down, Nat.zero_add, Nat.reduceAdd] at f2
  have f3 := geti_lt h2
  have f4 := geti_ne h2
  have f5 := geti_szc h2 1
  obtain ⟨v5, h4, h⟩ := Option.bind_eq_some_iff.1 h
  have f6 := stops_Next_ok h4
  try simp only [T.Inst.enc_eq, encx.down, Nat.zero_add, Nat.reduceAdd, f4, f5] at f6
  obtain ⟨x7, h6, h⟩ := Option.bind_eq_some_iff.1 h
  have f7 := geti_nat h6 IntKind.i64
  have f8 := geti_map intE h6
  try simp only [intE, encx.down, Nat.zero_add, Nat.reduceAdd] at f8
  have f9 := geti_lt h6
  obtain ⟨v9, h8, h⟩ := Option.bind_eq_some_iff.1 h
  have f10 := stops_Prev_ok h8
  try simp only [T.Inst.enc_eq, encx.down, Nat.zero_add, Nat.reduceAdd, f4, f5] at f10
  by_cases h10 : (!v5.2) = true
  rw [if_pos h10] at h
  try simp only [f4, f5] at f6 f10
  cases h
  show _ = some (law26_StopsWalk_L0_enc _ _ (.inl _))
  dsimp only [law26_StopsWalk_L0_enc]
  clear ih58
  rotate_left
  rw [if_neg h10] at h; replace h10 := Bool.eq_false_iff.2 h10
  by_cases g11 : ((v5.1 != x7) || (!v9.2)) = true
  focus
    rw [if_pos g11] at h
    rcases (by intro u0 u1; cases u0 <;> cases u1 <;> simp [Dum] : ∀ u0 u1 : Bool, (u0 || u1) = true → (u0 = true ∧ Dum) ∨ (u0 = false ∧ u1 = true)) (v5.1 != x7) (!v9.2) g11 with ⟨h11, h12⟩ | ⟨h11, h12⟩
    clear g11
    all_goals
      try simp only [f4, f5] at f6 f10
      cases h
      show _ = some (law26_StopsWalk_L0_enc _ _ (.inl _))
      dsimp only [law26_StopsWalk_L0_enc]
      clear ih58
      rotate_left
  rotate_left 2
  rw [if_neg g11] at h; replace g11 := Bool.eq_false_iff.2 g11
  rcases (by intro u0 u1; cases u0 <;> cases u1 <;> simp [Dum] : ∀ u0 u1 : Bool, (u0 || u1) = false → (u0 = false ∧ u1 = false)) (v5.1 != x7) (!v9.2) g11 with ⟨h11, h12⟩
  clear g11
  by_cases h13 : (v9.1 != x3) = true
  rw [if_pos h13] at h
  try simp only [f4, f5] at f6 f10
  cases h
  show _ = some (law26_StopsWalk_L0_enc _ _ (.inl _))
  dsimp only [law26_StopsWalk_L0_enc]
  clear ih58
  rotate_left
  rw [if_neg h13] at h; replace h13 := Bool.eq_false_iff.2 h13
  by_cases h14 : (x3 == (0 : Int)) = true
  rw [if_pos h14] at h
  try simp only [f4, f5] at f6 f10
  cases h
  show _ = some (law26_StopsWalk_L0_enc _ _ (.inl _))
  dsimp only [law26_StopsWalk_L0_enc]
  clear ih58
  rotate_left
  rw [if_neg h14] at h; replace h14 := Bool.eq_false_iff.2 h14
  by_cases h15 : (x7 != (0 : Int)) = true
  rw [if_pos h15] at h
  by_cases h16 : (decide (x7 ≤ x3)) = true
  rw [if_pos h16] at h
  try simp only [f4, f5] at f6 f10
  cases h
  show _ = some (law26_StopsWalk_L0_enc _ _ (.inl _))
  dsimp only [law26_StopsWalk_L0_enc]
  clear ih58
  rotate_left
  rw [if_neg h16] at h; replace h16 := Bool.eq_false_iff.2 h16
  try simp only [f4, f5] at f6 f10
  have f12 := ih58 _ _ h
  try dsimp only at f12
  try simp only [T.Inst.enc_eq, intE, encx.down, Nat.zero_add, Nat.reduceAdd, f4, f5] at f12
  clear h
  try simp only [f4, f5] at f12
  clear ih58
  rotate_left
  rw [if_neg h15] at h; replace h15 := Bool.eq_false_iff.2 h15
  try simp only [f4, f5] at f6 f10
  have f13 := ih58 _ _ h
  try dsimp only at f13
  try simp only [T.Inst.enc_eq, intE, encx.down, Nat.zero_add, Nat.reduceAdd, f4, f5] at f13
  clear h
  try simp only [f4, f5] at f13
  clear ih58
  rotate_left
  rw [if_neg h1] at h; replace h1 := Bool.eq_false_iff.2 h1
  cases h
  show _ = some (law26_StopsWalk_L0_enc _ _ (.inr _))
  dsimp only [law26_StopsWalk_L0_enc]
  clear ih58
  rotate_left
  all_goals
    refine omega_L fn6 (by rfl) ?_
    simp (disch := first | assumption | rfl | exact Sure.mk (by kernel_rfl)) only [coreG.down, tab.down, ↓reduceIte, Nat.reduceLeDiff, Nat.reduceEqDiff, Nat.reduceLT, Nat.reduceAdd, Nat.reduceSub, Nat.reduceMul, reduceCtorEq, Nat.reducePow, needs, aop, aBin, intBin, aLoad, List.toList_toArray, avOf, pvOf, allPV, List.take, List.drop, List.length_cons, List.length_nil, List.length_map, aStore, AV.stor, AV.cells, List.append, aFieldAddr, List.getElem?_cons_zero, List.getElem?_cons_succ, subHeap, AV.refs, AV.ren, AV.rows, if_true, if_false, List.nil_append, List.append_nil, List.cons_append, tupled, unz, aBuiltin, lenTd, aLen, ptrRows, List.getElem?_nil, touched, List.isEmpty_nil, Option.some.injEq, aUn, pure?, PV.cells, List.replicate, List.set_cons_zero, List.set_cons_succ, aConvert, strBin, sliceOf, eq_self, AV.thaw, Blk.thaw, aSlice, aNil, isNilV, aEq, plainEq, fitAll, keyFits, aMax, maxFrom, aPart, Blk.ren, Blk.refs, List.flatMap_nil, List.flatMap_cons, List.map_cons, List.map_nil, List.drop_zero, Option.isSome_none, Option.isNone_none, Option.isSome_some, Option.isNone_some, sp6_0, sp6_2, sp6_4, sp6_6, T.Inst.enc_eq, intE, *]
set_option maxHeartbeats 4000000 in
theorem law26_StopsWalk_L2_ok {is : (Sl T.Inst)} {many : Int} {i : Int} {ns : (List Int)} {r : (Int)} (h : law26_StopsWalk_L2 (is, many, i, ns) = some r) :
    O.loop 6 2 ⟨[(0, AV.pv (PV.sl is.nil (szc 3 is.l) (List.map T.Inst.enc is.l))), (3, AV.row 0 ns.length 0 ns.length), (9, AV.pv (PV.int IntKind.i64 many)), (10, AV.pv (PV.int IntKind.i64 i))], [(0, Blk.row ns.isEmpty (szc 1 ns) (List.map intE ns))], 1⟩ = some (Ex.normal, ⟨[(0, AV.pv (PV.sl is.nil (szc 3 is.l) (List.map T.Inst.enc is.l))), (3, AV.row 0 ns.length 0 ns.length), (9, AV.pv (PV.int IntKind.i64 r))], [(0, Blk.row ns.isEmpty (szc 1 ns) (List.map intE ns))], 1⟩) := by
  refine law26_StopsWalk_L2.partial_correctness (fun p r => O.loop 6 2 ⟨[(0, AV.pv (PV.sl p.1.nil (szc 3 p.1.l) (List.map T.Inst.enc p.1.l))), (3, AV.row 0 p.2.2.2.length 0 p.2.2.2.length), (9, AV.pv (PV.int IntKind.i64 p.2.1)), (10, AV.pv (PV.int IntKind.i64 p.2.2.1))], [(0, Blk.row p.2.2.2.isEmpty (szc 1 p.2.2.2) (List.map intE p.2.2.2))], 1⟩ = some (Ex.normal, ⟨[(0, AV.pv (PV.sl p.1.nil (szc 3 p.1.l) (List.map T.Inst.enc p.1.l))), (3, AV.row 0 p.2.2.2.length 0 p.2.2.2.length), (9, AV.pv (PV.int IntKind.i64 r))], [(0, Blk.row p.2.2.2.isEmpty (szc 1 p.2.2.2) (List.map intE p.2.2.2))], 1⟩)) ?_ (is, many, i, ns) r h
  clear h r is many i ns
  intro law26_StopsWalk_L2 ih59
  rintro ⟨is, many, i, ns⟩ r h
  dsimp only at h ⊢
  by_cases h1 : (decide (i < (ns.length : Int))) = true
  rw [if_pos h1] at h
  obtain ⟨x3, h2, h⟩ := Option.bind_eq_some_iff.1 h
  have f1 := geti_nat h2 IntKind.i64
  have f2 := geti_map intE h2
  try simp only [intE, encx.down, Nat.zero_add, Nat.reduceAdd] at f2
  have f3 := geti_lt h2
  have f4 := geti_ne h2
  have f5 := geti_szc h2 1
  obtain ⟨v5, h4, h⟩ := Option.bind_eq_some_iff.1 h
  have f6 := stops_Spans_ok h4
  try simp only [T.Inst.enc_eq, T.Span.enc_eq, encx.down, Nat.zero_add, Nat.reduceAdd, f4, f5] at f6
  try simp only [f4, f5] at f6
  have f7 := ih59 _ _ h
  try dsimp only at f7
  try simp only [T.Inst.enc_eq, intE, encx.down, Nat.zero_add, Nat.reduceAdd, f4, f5] at f7
  clear h
  try simp only [f4, f5] at f7
  clear ih59
  rotate_left
  rw [if_neg h1] at h; replace h1 := Bool.eq_false_iff.2 h1
  cases h
  clear ih59
  rotate_left
  all_goals
    refine omega_L fn6 (by rfl) ?_
    simp (disch := first | assumption | rfl | exact Sure.mk (by kernel_rfl)) only [coreG.down, tab.down, ↓reduceIte, Nat.reduceLeDiff, Nat.reduceEqDiff, Nat.reduceLT, Nat.reduceAdd, Nat.reduceSub, Nat.reduceMul, reduceCtorEq, Nat.reducePow, needs, aop, aBin, intBin, aLoad, List.toList_toArray, avOf, pvOf, allPV, List.take, List.drop, List.length_cons, List.length_nil, List.length_map, aStore, AV.stor, AV.cells, List.append, aFieldAddr, List.getElem?_cons_zero, List.getElem?_cons_succ, subHeap, AV.refs, AV.ren, AV.rows, if_true, if_false, List.nil_append, List.append_nil, List.cons_append, tupled, unz, aBuiltin, lenTd, aLen, ptrRows, List.getElem?_nil, touched, List.isEmpty_nil, Option.some.injEq, aUn, pure?, PV.cells, List.replicate, List.set_cons_zero, List.set_cons_succ, aConvert, strBin, sliceOf, eq_self, AV.thaw, Blk.thaw, aSlice, aNil, isNilV, aEq, plainEq, fitAll, keyFits, aMax, maxFrom, aPart, Blk.ren, Blk.refs, List.flatMap_nil, List.flatMap_cons, List.map_cons, List.map_nil, List.drop_zero, Option.isSome_none, Option.isNone_none, Option.isSome_some, Option.isNone_some, sp6_0, sp6_2, sp6_4, sp6_6, T.Inst.enc_eq, intE, *]
set_option maxHeartbeats 4000000 in
theorem law26_StopsWalk_L6_ok {is : (Sl T.Inst)} {many : Int} {i : Int} {k : Int} {ns : (List Int)} {r : (Int)} (h : law26_StopsWalk_L6 (is, many, i, k, ns) = some r) :
    O.loop 6 6 ⟨[(0, AV.pv (PV.sl is.nil (szc 3 is.l) (List.map T.Inst.enc is.l))), (3, AV.row 0 ns.length 0 ns.length), (9, AV.pv (PV.int IntKind.i64 many)), (11, AV.pv (PV.int IntKind.i64 i)), (12, AV.pv (PV.int IntKind.i64 k))], [(0, Blk.row ns.isEmpty (szc 1 ns) (List.map intE ns))], 1⟩ = some (Ex.normal, ⟨[(0, AV.pv (PV.sl is.nil (szc 3 is.l) (List.map T.Inst.enc is.l))), (3, AV.row 0 ns.length 0 ns.length), (9, AV.pv (PV.int IntKind.i64 r)), (11, AV.pv (PV.int IntKind.i64 i))], [(0, Blk.row ns.isEmpty (szc 1 ns) (List.map intE ns))], 1⟩) := by
  refine law26_StopsWalk_L6.partial_correctness (fun p r => O.loop 6 6 ⟨[(0, AV.pv (PV.sl p.1.nil (szc 3 p.1.l) (List.map T.Inst.enc p.1.l))), (3, AV.row 0 p.2.2.2.2.length 0 p.2.2.2.2.length), (9, AV.pv (PV.int IntKind.i64 p.2.1)), (11, AV.pv (PV.int IntKind.i64 p.2.2.1)), (12, AV.pv (PV.int IntKind.i64 p.2.2.2.1))], [(0, Blk.row p.2.2.2.2.isEmpty (szc 1 p.2.2.2.2) (List.map intE p.2.2.2.2))], 1⟩ = some (Ex.normal, ⟨[(0, AV.pv (PV.sl p.1.nil (szc 3 p.1.l) (List.map T.Inst.enc p.1.l))), (3, AV.row 0 p.2.2.2.2.length 0 p.2.2.2.2.length), (9, AV.pv (PV.int IntKind.i64 r)), (11, AV.pv (PV.int IntKind.i64 p.2.2.1))], [(0, Blk.row p.2.2.2.2.isEmpty (szc 1 p.2.2.2.2) (List.map intE p.2.2.2.2))], 1⟩)) ?_ (is, many, i, k, ns) r h
  clear h r is many i k ns
  intro law26_StopsWalk_L6 ih61
  rintro ⟨is, many, i, k, ns⟩ r h
  dsimp only at h ⊢
  obtain ⟨x2, h1, h⟩ := Option.bind_eq_some_iff.1 h
  have f1 := geti_nat h1 IntKind.i64
  have f2 := geti_map T.Inst.enc h1
  try simp only [T.Inst.enc_eq, encx.down, Nat.zero_add, Nat.reduceAdd] at f2
  have f3 := geti_szcT h1 3
  by_cases h3 : (decide (k < (x2.stops.l.length : Int))) = true
  rw [if_pos h3] at h
  obtain ⟨x5, h4, h⟩ := Option.bind_eq_some_iff.1 h
  have f4 := geti_nat h4 IntKind.i64
  have f5 := geti_map T.Stop.enc h4
  try simp only [T.Stop.enc_eq, encx.down, Nat.zero_add, Nat.reduceAdd] at f5
  have f6 := geti_szcT h4 18
  by_cases h6 : (!x5.turned) = true
  rw [if_pos h6] at h
  have f7 := ih61 _ _ h
  try dsimp only at f7
  try simp only [T.Inst.enc_eq, intE, encx.down, Nat.zero_add, Nat.reduceAdd] at f7
  clear h
  clear ih61
  rotate_left
  rw [if_neg h6] at h; replace h6 := Bool.eq_false_iff.2 h6
  have f8 := ih61 _ _ h
  try dsimp only at f8
  try simp only [T.Inst.enc_eq, intE, encx.down, Nat.zero_add, Nat.reduceAdd] at f8
  clear h
  clear ih61
  rotate_left
  rw [if_neg h3] at h; replace h3 := Bool.eq_false_iff.2 h3
  cases h
  clear ih61
  rotate_left
  all_goals
    refine omega_L fn6 (by rfl) ?_
    simp (disch := first | assumption | rfl | exact Sure.mk (by kernel_rfl)) only [coreG.down, tab.down, ↓reduceIte, Nat.reduceLeDiff, Nat.reduceEqDiff, Nat.reduceLT, Nat.reduceAdd, Nat.reduceSub, Nat.reduceMul, reduceCtorEq, Nat.reducePow, needs, aop, aBin, intBin, aLoad, List.toList_toArray, avOf, pvOf, allPV, List.take, List.drop, List.length_cons, List.length_nil, List.length_map, aStore, AV.stor, AV.cells, List.append, aFieldAddr, List.getElem?_cons_zero, List.getElem?_cons_succ, subHeap, AV.refs, AV.ren, AV.rows, if_true, if_false, List.nil_append, List.append_nil, List.cons_append, tupled, unz, aBuiltin, lenTd, aLen, ptrRows, List.getElem?_nil, touched, List.isEmpty_nil, Option.some.injEq, aUn, pure?, PV.cells, List.replicate, List.set_cons_zero, List.set_cons_succ, aConvert, strBin, sliceOf, eq_self, AV.thaw, Blk.thaw, aSlice, aNil, isNilV, aEq, plainEq, fitAll, keyFits, aMax, maxFrom, aPart, Blk.ren, Blk.refs, List.flatMap_nil, List.flatMap_cons, List.map_cons, List.map_nil, List.drop_zero, Option.isSome_none, Option.isNone_none, Option.isSome_some, Option.isNone_some, sp6_0, sp6_2, sp6_4, sp6_6, T.Inst.enc_eq, intE, *]
set_option maxHeartbeats 4000000 in
theorem law26_StopsWalk_L4_ok {is : (Sl T.Inst)} {many : Int} {i : Int} {ns : (List Int)} {r : (Int)} (h : law26_StopsWalk_L4 (is, many, i, ns) = some r) :
    O.loop 6 4 ⟨[(0, AV.pv (PV.sl is.nil (szc 3 is.l) (List.map T.Inst.enc is.l))), (3, AV.row 0 ns.length 0 ns.length), (9, AV.pv (PV.int IntKind.i64 many)), (11, AV.pv (PV.int IntKind.i64 i))], [(0, Blk.row ns.isEmpty (szc 1 ns) (List.map intE ns))], 1⟩ = some (Ex.normal, ⟨[(0, AV.pv (PV.sl is.nil (szc 3 is.l) (List.map T.Inst.enc is.l))), (3, AV.row 0 ns.length 0 ns.length), (9, AV.pv (PV.int IntKind.i64 r))], [(0, Blk.row ns.isEmpty (szc 1 ns) (List.map intE ns))], 1⟩) := by
  refine law26_StopsWalk_L4.partial_correctness (fun p r => O.loop 6 4 ⟨[(0, AV.pv (PV.sl p.1.nil (szc 3 p.1.l) (List.map T.Inst.enc p.1.l))), (3, AV.row 0 p.2.2.2.length 0 p.2.2.2.length), (9, AV.pv (PV.int IntKind.i64 p.2.1)), (11, AV.pv (PV.int IntKind.i64 p.2.2.1))], [(0, Blk.row p.2.2.2.isEmpty (szc 1 p.2.2.2) (List.map intE p.2.2.2))], 1⟩ = some (Ex.normal, ⟨[(0, AV.pv (PV.sl p.1.nil (szc 3 p.1.l) (List.map T.Inst.enc p.1.l))), (3, AV.row 0 p.2.2.2.length 0 p.2.2.2.length), (9, AV.pv (PV.int IntKind.i64 r))], [(0, Blk.row p.2.2.2.isEmpty (szc 1 p.2.2.2) (List.map intE p.2.2.2))], 1⟩)) ?_ (is, many, i, ns) r h
  clear h r is many i ns
  intro law26_StopsWalk_L4 ih60
  rintro ⟨is, many, i, ns⟩ r h
  dsimp only at h ⊢
  by_cases h1 : (decide (i < (is.l.length : Int))) = true
  rw [if_pos h1] at h
  obtain ⟨v3, h2, h⟩ := Option.bind_eq_some_iff.1 h
  have f1 := law26_StopsWalk_L6_ok h2
  try simp only [T.Inst.enc_eq, intE, encx.down, Nat.zero_add, Nat.reduceAdd] at f1
  have f2 := ih60 _ _ h
  try dsimp only at f2
  try simp only [T.Inst.enc_eq, intE, encx.down, Nat.zero_add, Nat.reduceAdd] at f2
  clear h
  clear ih60
  rotate_left
  rw [if_neg h1] at h; replace h1 := Bool.eq_false_iff.2 h1
  cases h
  clear ih60
  rotate_left
  all_goals
    refine omega_L fn6 (by rfl) ?_
    simp (disch := first | assumption | rfl | exact Sure.mk (by kernel_rfl)) only [coreG.down, tab.down, ↓reduceIte, Nat.reduceLeDiff, Nat.reduceEqDiff, Nat.reduceLT, Nat.reduceAdd, Nat.reduceSub, Nat.reduceMul, reduceCtorEq, Nat.reducePow, needs, aop, aBin, intBin, aLoad, List.toList_toArray, avOf, pvOf, allPV, List.take, List.drop, List.length_cons, List.length_nil, List.length_map, aStore, AV.stor, AV.cells, List.append, aFieldAddr, List.getElem?_cons_zero, List.getElem?_cons_succ, subHeap, AV.refs, AV.ren, AV.rows, if_true, if_false, List.nil_append, List.append_nil, List.cons_append, tupled, unz, aBuiltin, lenTd, aLen, ptrRows, List.getElem?_nil, touched, List.isEmpty_nil, Option.some.injEq, aUn, pure?, PV.cells, List.replicate, List.set_cons_zero, List.set_cons_succ, aConvert, strBin, sliceOf, eq_self, AV.thaw, Blk.thaw, aSlice, aNil, isNilV, aEq, plainEq, fitAll, keyFits, aMax, maxFrom, aPart, Blk.ren, Blk.refs, List.flatMap_nil, List.flatMap_cons, List.map_cons, List.map_nil, List.drop_zero, Option.isSome_none, Option.isNone_none, Option.isSome_some, Option.isNone_some, sp6_0, sp6_2, sp6_4, sp6_6, T.Inst.enc_eq, intE, *]
set_option maxHeartbeats 4000000 in
theorem law26_StopsWalk_ok {is : (Sl T.Inst)} {r : (Bool)} (h : law26_StopsWalk is = some r) :
    O.call 6 [AV.pv (PV.sl is.nil (szc 3 is.l) (List.map T.Inst.enc is.l))] [] = some (AV.pv (PV.bool r), []) := by
  unfold law26_StopsWalk at h
  obtain ⟨v2, h1, h⟩ := Option.bind_eq_some_iff.1 h
  have f1 := law26_much_ok h1
  try simp only [T.Inst.enc_eq, encx.down, Nat.zero_add, Nat.reduceAdd] at f1
  by_cases h3 : v2 = true
  rw [if_pos h3] at h
  obtain ⟨v5, h4, h⟩ := Option.bind_eq_some_iff.1 h
  have f2 := aw7_ok h4
  try simp only [encx.down, Nat.zero_add, Nat.reduceAdd] at f2
  try simp only [h3] at f1 f2
  cases h
  rotate_left
  rw [if_neg h3] at h; replace h3 := Bool.eq_false_iff.2 h3
  obtain ⟨v7, h6, h⟩ := Option.bind_eq_some_iff.1 h
  have f3 := stops_Numbers_ok h6
  try simp only [T.Inst.enc_eq, intE, encx.down, Nat.zero_add, Nat.reduceAdd] at f3
  obtain ⟨v9, h8, h⟩ := Option.bind_eq_some_iff.1 h
  have f4 := law26_StopsWalk_L0_ok h8
  try simp only [T.Inst.enc_eq, intE, encx.down, Nat.zero_add, Nat.reduceAdd] at f4
  rcases v9 with y10 | y11
  dsimp only at h
  simp only [law26_StopsWalk_L0_enc, T.Inst.enc_eq, intE, encx.down, Nat.zero_add, Nat.reduceAdd] at f4
  try simp only [h3] at f1 f3 f4
  cases h
  rotate_left
  dsimp only at h
  simp only [law26_StopsWalk_L0_enc, T.Inst.enc_eq, intE, encx.down, Nat.zero_add, Nat.reduceAdd] at f4
  obtain ⟨v13, h12, h⟩ := Option.bind_eq_some_iff.1 h
  have f5 := law26_StopsWalk_L2_ok h12
  try simp only [T.Inst.enc_eq, intE, encx.down, Nat.zero_add, Nat.reduceAdd] at f5
  obtain ⟨v15, h14, h⟩ := Option.bind_eq_some_iff.1 h
  have f6 := law26_StopsWalk_L4_ok h14
  try simp only [T.Inst.enc_eq, intE, encx.down, Nat.zero_add, Nat.reduceAdd] at f6
  by_cases h16 : ((v7.length : Int) == (0 : Int)) = true
  rw [if_pos h16] at h
  by_cases h17 : (v15 == (0 : Int)) = true
  rw [if_pos h17] at h
  obtain ⟨v19, h18, h⟩ := Option.bind_eq_some_iff.1 h
  have f7 := aw7_ok h18
  try simp only [encx.down, Nat.zero_add, Nat.reduceAdd] at f7
  try simp only [h3] at f1 f3 f4 f5 f6 f7
  cases h
  rotate_left
  rw [if_neg h17] at h; replace h17 := Bool.eq_false_iff.2 h17
  try simp only [h3] at f1 f3 f4 f5 f6
  cases h
  rotate_left
  rw [if_neg h16] at h; replace h16 := Bool.eq_false_iff.2 h16
  obtain ⟨x21, h20, h⟩ := Option.bind_eq_some_iff.1 h
  have f8 := geti_nat h20 IntKind.i64
  have f9 := geti_map intE h20
  try simp only [intE, encx.down, Nat.zero_add, Nat.reduceAdd] at f9
  have f10 := geti_lt h20
  have f11 := geti_ne h20
  have f12 := geti_szc h20 1
  obtain ⟨v23, h22, h⟩ := Option.bind_eq_some_iff.1 h
  have f13 := stops_Next_ok h22
  try simp only [T.Inst.enc_eq, encx.down, Nat.zero_add, Nat.reduceAdd, f11, f12] at f13
  obtain ⟨x25, h24, h⟩ := Option.bind_eq_some_iff.1 h
  have f14 := geti_nat h24 IntKind.i64
  have f15 := geti_map intE h24
  try simp only [intE, encx.down, Nat.zero_add, Nat.reduceAdd] at f15
  have f16 := geti_lt h24
  obtain ⟨v27, h26, h⟩ := Option.bind_eq_some_iff.1 h
  have f17 := stops_Prev_ok h26
  try simp only [T.Inst.enc_eq, encx.down, Nat.zero_add, Nat.reduceAdd, f11, f12] at f17
  by_cases g18 : ((!v23.2) && ((!v27.2) && (v15 == (0 : Int)))) = true
  rw [if_pos g18] at h
  rcases (by intro u0 u1 u2; cases u0 <;> cases u1 <;> cases u2 <;> simp [Dum] : ∀ u0 u1 u2 : Bool, (u0 && (u1 && u2)) = true → (u0 = true ∧ u1 = true ∧ u2 = true)) (!v23.2) (!v27.2) (v15 == (0 : Int)) g18 with ⟨h28, h29, h30⟩
  clear g18
  obtain ⟨v32, h31, h⟩ := Option.bind_eq_some_iff.1 h
  have f19 := aw7_ok h31
  try simp only [encx.down, Nat.zero_add, Nat.reduceAdd, f11, f12] at f19
  try simp only [h3, f11, f12] at f1 f3 f4 f5 f6 f13 f17 f19
  cases h
  rotate_left
  focus
    rw [if_neg g18] at h; replace g18 := Bool.eq_false_iff.2 g18
    rcases (by intro u0 u1 u2; cases u0 <;> cases u1 <;> cases u2 <;> simp [Dum] : ∀ u0 u1 u2 : Bool, (u0 && (u1 && u2)) = false → (u0 = false ∧ Dum ∧ Dum) ∨ (u0 = true ∧ u1 = false ∧ Dum) ∨ (u0 = true ∧ u1 = true ∧ u2 = false)) (!v23.2) (!v27.2) (v15 == (0 : Int)) g18 with ⟨h28, h29, h30⟩ | ⟨h28, h29, h30⟩ | ⟨h28, h29, h30⟩
    clear g18
    all_goals
      try simp only [h3, f11, f12] at f1 f3 f4 f5 f6 f13 f17
      cases h
      rotate_left
  rotate_left 3
  all_goals
    refine omega_F rfl fn6 (by rfl) (by rfl) rfl ?_
    simp (disch := first | assumption | rfl | exact Sure.mk (by kernel_rfl)) only [coreG.down, tab.down, ↓reduceIte, Nat.reduceLeDiff, Nat.reduceEqDiff, Nat.reduceLT, Nat.reduceAdd, Nat.reduceSub, Nat.reduceMul, reduceCtorEq, Nat.reducePow, needs, aop, aBin, intBin, aLoad, List.toList_toArray, avOf, pvOf, allPV, List.take, List.drop, List.length_cons, List.length_nil, List.length_map, aStore, AV.stor, AV.cells, List.append, aFieldAddr, List.getElem?_cons_zero, List.getElem?_cons_succ, subHeap, AV.refs, AV.ren, AV.rows, if_true, if_false, List.nil_append, List.append_nil, List.cons_append, tupled, unz, aBuiltin, lenTd, aLen, ptrRows, List.getElem?_nil, touched, List.isEmpty_nil, Option.some.injEq, aUn, pure?, PV.cells, List.replicate, List.set_cons_zero, List.set_cons_succ, aConvert, strBin, sliceOf, eq_self, AV.thaw, Blk.thaw, aSlice, aNil, isNilV, aEq, plainEq, fitAll, keyFits, aMax, maxFrom, aPart, Blk.ren, Blk.refs, List.flatMap_nil, List.flatMap_cons, List.map_cons, List.map_nil, List.drop_zero, Option.isSome_none, Option.isNone_none, Option.isSome_some, Option.isNone_some, sp6_0, sp6_2, sp6_4, sp6_6, T.Inst.enc_eq, *]
end Go.Proofs.Ytdhgdeelagmbpaa
