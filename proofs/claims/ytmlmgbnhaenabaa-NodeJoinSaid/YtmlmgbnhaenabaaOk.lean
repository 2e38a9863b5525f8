/-
  What the machine's calls come to: the plain functions.
-/
import Derived.Test.YtmlmgbnhaenabaaSp
import Derived.Test.YtmlmgbnhaenabaaSh
import Derived.Test.YtmlmgbnhaenabaaAw
set_option linter.unusedSimpArgs false
set_option linter.unusedVariables false
set_option maxRecDepth 100000
namespace Go.Proofs.Ytmlmgbnhaenabaa
open Go Go.Gm
attribute [local go_sem] needs aop aBin intBin aLoad List.toList_toArray avOf pvOf allPV List.take List.drop List.length_cons List.length_nil List.length_map aStore AV.stor AV.cells List.append aFieldAddr List.getElem?_cons_zero List.getElem?_cons_succ subHeap AV.refs AV.ren AV.rows if_true if_false List.nil_append List.append_nil List.cons_append tupled unz aBuiltin lenTd aLen ptrRows List.getElem?_nil touched List.isEmpty_nil Option.some.injEq aUn pure? PV.cells List.replicate List.set_cons_zero List.set_cons_succ aConvert strBin sliceOf eq_self AV.thaw Blk.thaw aSlice aNil isNilV aEq plainEq fitAll keyFits aMax maxFrom aPart Blk.ren Blk.refs List.flatMap_nil List.flatMap_cons aMakeSlice List.map_cons List.map_nil List.drop_zero Option.isSome_none Option.isNone_none Option.isSome_some Option.isNone_some
def law0_Rx_L0_enc (x : T.Rx) : ((Int × Int) ⊕ (Int)) → Ex × St
  | .inl y => (Ex.ret, ⟨[(1, AV.pv (PV.int IntKind.i64 y.1)), (2, AV.ptr 0 0), (4, AV.pv (PV.int IntKind.i64 y.2))], [(0, Blk.box (List.map AV.pv (T.Rx.enc x)))], 1⟩)
  | .inr y => (Ex.normal, ⟨[(1, AV.pv (PV.int IntKind.i64 y)), (2, AV.ptr 0 0), (4, AV.undef)], [(0, Blk.box (List.map AV.pv (T.Rx.enc x)))], 1⟩)
set_option maxHeartbeats 4000000 in
theorem law0_Rx_L0_ok {n : Int} {i : Int} {x : T.Rx} {r : ((Int × Int) ⊕ (Int))} (h : law0_Rx_L0 (n, i, x) = some r) :
    O.loop 36 0 ⟨[(1, AV.pv (PV.int IntKind.i64 n)), (2, AV.ptr 0 0), (5, AV.pv (PV.int IntKind.i64 i))], [(0, Blk.box (List.map AV.pv (T.Rx.enc x)))], 1⟩ = some (law0_Rx_L0_enc x r) := by
  refine law0_Rx_L0.partial_correctness (fun p r => O.loop 36 0 ⟨[(1, AV.pv (PV.int IntKind.i64 p.1)), (2, AV.ptr 0 0), (5, AV.pv (PV.int IntKind.i64 p.2.1))], [(0, Blk.box (List.map AV.pv (T.Rx.enc p.2.2)))], 1⟩ = some (law0_Rx_L0_enc p.2.2 r)) ?_ (n, i, x) r h
  clear h r n i x
  intro law0_Rx_L0 ih5
  rintro ⟨n, i, x⟩ r h
  dsimp only at h ⊢
  by_cases h1 : (decide (i < (x.rows.l.length : Int))) = true
  rw [if_pos h1] at h
  obtain ⟨x3, h2, h⟩ := Option.bind_eq_some_iff.1 h
  have f1 := geti_nat h2 IntKind.i64
  have f2 := geti_map T.Row.enc h2
  try simp only [T.Row.enc_eq, encx.down, Nat.zero_add, Nat.reduceAdd] at f2
  have f3 := geti_szcT h2 2
  by_cases h4 : (decide ((x3.frm.length : Int) ≥ n)) = true
  rw [if_pos h4] at h
  cases h
  show _ = some (law0_Rx_L0_enc _ (.inl _))
  dsimp only [law0_Rx_L0_enc]
  clear ih5
  rotate_left
  rw [if_neg h4] at h; replace h4 := Bool.eq_false_iff.2 h4
  by_cases h5 : (decide ((x3.to.length : Int) ≥ n)) = true
  rw [if_pos h5] at h
  cases h
  show _ = some (law0_Rx_L0_enc _ (.inl _))
  dsimp only [law0_Rx_L0_enc]
  clear ih5
  rotate_left
  rw [if_neg h5] at h; replace h5 := Bool.eq_false_iff.2 h5
  have f4 := ih5 _ _ h
  try dsimp only at f4
  try simp only [T.Rx.enc_eq, encx.down, Nat.zero_add, Nat.reduceAdd] at f4
  clear h
  clear ih5
  rotate_left
  rw [if_neg h1] at h; replace h1 := Bool.eq_false_iff.2 h1
  cases h
  show _ = some (law0_Rx_L0_enc _ (.inr _))
  dsimp only [law0_Rx_L0_enc]
  clear ih5
  rotate_left
  all_goals
    refine omega_L fn36 (by rfl) ?_
    simp (disch := first | assumption | rfl | exact Sure.mk (by kernel_rfl)) only [go_sem, coreG.down, tab.down, ↓reduceIte, Nat.reduceLeDiff, Nat.reduceEqDiff, Nat.reduceLT, Nat.reduceAdd, Nat.reduceSub, Nat.reduceMul, reduceCtorEq, Nat.reducePow, sp36_0, sp36_2, T.Rx.enc_eq, *]
set_option maxHeartbeats 4000000 in
theorem law0_Rx_all : (∀ p r, law0_Rx p = some r → O.call 36 [AV.pv (PV.agg (T.Rx.enc p.1)), AV.pv (PV.int IntKind.i64 p.2)] [] = some (AV.pv (PV.int IntKind.i64 r), [])) ∧ (∀ p r, law0_Rx_L2 p = some r → O.loop 36 2 ⟨[(1, AV.pv (PV.int IntKind.i64 p.1)), (2, AV.ptr 0 0), (6, AV.pv (PV.int IntKind.i64 p.2.1))], [(0, Blk.box (List.map AV.pv (T.Rx.enc p.2.2)))], 1⟩ = some (Ex.normal, ⟨[(1, AV.pv (PV.int IntKind.i64 r))], [(0, Blk.box (List.map AV.pv (T.Rx.enc p.2.2)))], 1⟩)) := by
  refine law0_Rx.mutual_partial_correctness (fun p r => O.call 36 [AV.pv (PV.agg (T.Rx.enc p.1)), AV.pv (PV.int IntKind.i64 p.2)] [] = some (AV.pv (PV.int IntKind.i64 r), [])) (fun p r => O.loop 36 2 ⟨[(1, AV.pv (PV.int IntKind.i64 p.1)), (2, AV.ptr 0 0), (6, AV.pv (PV.int IntKind.i64 p.2.1))], [(0, Blk.box (List.map AV.pv (T.Rx.enc p.2.2)))], 1⟩ = some (Ex.normal, ⟨[(1, AV.pv (PV.int IntKind.i64 r))], [(0, Blk.box (List.map AV.pv (T.Rx.enc p.2.2)))], 1⟩)) ?_ ?_
  · intro law0_Rx_L2 ih6
    rintro ⟨x, n⟩ r h
    dsimp only at h ⊢
    by_cases g1 : ((decide ((x.char.length : Int) ≥ n)) || ((decide ((x.rows.l.length : Int) ≥ n)) || (decide ((x.kids.l.length : Int) ≥ n)))) = true
    focus
      rw [if_pos g1] at h
      rcases (by intro u0 u1 u2; cases u0 <;> cases u1 <;> cases u2 <;> simp [Dum] : ∀ u0 u1 u2 : Bool, (u0 || (u1 || u2)) = true → (u0 = true ∧ Dum ∧ Dum) ∨ (u0 = false ∧ u1 = true ∧ Dum) ∨ (u0 = false ∧ u1 = false ∧ u2 = true)) (decide ((x.char.length : Int) ≥ n)) (decide ((x.rows.l.length : Int) ≥ n)) (decide ((x.kids.l.length : Int) ≥ n)) g1 with ⟨h1, h2, h3⟩ | ⟨h1, h2, h3⟩ | ⟨h1, h2, h3⟩
      clear g1
      all_goals
        cases h
        clear ih6
        rotate_left
    rotate_left 3
    rw [if_neg g1] at h; replace g1 := Bool.eq_false_iff.2 g1
    rcases (by intro u0 u1 u2; cases u0 <;> cases u1 <;> cases u2 <;> simp [Dum] : ∀ u0 u1 u2 : Bool, (u0 || (u1 || u2)) = false → (u0 = false ∧ u1 = false ∧ u2 = false)) (decide ((x.char.length : Int) ≥ n)) (decide ((x.rows.l.length : Int) ≥ n)) (decide ((x.kids.l.length : Int) ≥ n)) g1 with ⟨h1, h2, h3⟩
    clear g1
    obtain ⟨v5, h4, h⟩ := Option.bind_eq_some_iff.1 h
    have f2 := law0_Rx_L0_ok h4
    try simp only [T.Rx.enc_eq, encx.down, Nat.zero_add, Nat.reduceAdd] at f2
    rcases v5 with y6 | y7
    dsimp only at h
    simp only [law0_Rx_L0_enc, T.Rx.enc_eq, encx.down, Nat.zero_add, Nat.reduceAdd] at f2
    cases h
    clear ih6
    rotate_left
    dsimp only at h
    simp only [law0_Rx_L0_enc, T.Rx.enc_eq, encx.down, Nat.zero_add, Nat.reduceAdd] at f2
    obtain ⟨v9, h8, h⟩ := Option.bind_eq_some_iff.1 h
    have f3 := ih6 _ _ h8
    try dsimp only at f3
    try simp only [T.Rx.enc_eq, encx.down, Nat.zero_add, Nat.reduceAdd] at f3
    cases h
    clear ih6
    rotate_left
    all_goals
      refine omega_F rfl fn36 (by rfl) (by rfl) rfl ?_
      simp (disch := first | assumption | rfl | exact Sure.mk (by kernel_rfl)) only [go_sem, coreG.down, tab.down, ↓reduceIte, Nat.reduceLeDiff, Nat.reduceEqDiff, Nat.reduceLT, Nat.reduceAdd, Nat.reduceSub, Nat.reduceMul, reduceCtorEq, Nat.reducePow, sp36_0, sp36_2, T.Rx.enc_eq, *]
  · intro law0_Rx law0_Rx_L2 ih4 ih6
    rintro ⟨n, i, x⟩ r h
    dsimp only at h ⊢
    by_cases g1 : ((decide (i < (x.kids.l.length : Int))) && (decide (n ≥ (0 : Int)))) = true
    rw [if_pos g1] at h
    rcases (by intro u0 u1; cases u0 <;> cases u1 <;> simp [Dum] : ∀ u0 u1 : Bool, (u0 && u1) = true → (u0 = true ∧ u1 = true)) (decide (i < (x.kids.l.length : Int))) (decide (n ≥ (0 : Int))) g1 with ⟨h1, h2⟩
    clear g1
    obtain ⟨x4, h3, h⟩ := Option.bind_eq_some_iff.1 h
    have f2 := geti_nat h3 IntKind.i64
    have f3 := geti_map T.Rx.enc h3
    try simp only [T.Rx.enc_eq, encx.down, Nat.zero_add, Nat.reduceAdd] at f3
    have f4 := geti_szcT h3 8
    obtain ⟨v6, h5, h⟩ := Option.bind_eq_some_iff.1 h
    have f5 := ih4 _ _ h5
    try dsimp only at f5
    try simp only [T.Rx.enc_eq, encx.down, Nat.zero_add, Nat.reduceAdd] at f5
    have f6 := ih6 _ _ h
    try dsimp only at f6
    try simp only [T.Rx.enc_eq, encx.down, Nat.zero_add, Nat.reduceAdd] at f6
    clear h
    clear ih4 ih6
    rotate_left
    focus
      rw [if_neg g1] at h; replace g1 := Bool.eq_false_iff.2 g1
      rcases (by intro u0 u1; cases u0 <;> cases u1 <;> simp [Dum] : ∀ u0 u1 : Bool, (u0 && u1) = false → (u0 = false ∧ Dum) ∨ (u0 = true ∧ u1 = false)) (decide (i < (x.kids.l.length : Int))) (decide (n ≥ (0 : Int))) g1 with ⟨h1, h2⟩ | ⟨h1, h2⟩
      clear g1
      all_goals
        cases h
        clear ih4 ih6
        rotate_left
    rotate_left 2
    all_goals
      refine omega_L fn36 (by rfl) ?_
      simp (disch := first | assumption | rfl | exact Sure.mk (by kernel_rfl)) only [go_sem, coreG.down, tab.down, ↓reduceIte, Nat.reduceLeDiff, Nat.reduceEqDiff, Nat.reduceLT, Nat.reduceAdd, Nat.reduceSub, Nat.reduceMul, reduceCtorEq, Nat.reducePow, sp36_0, sp36_2, T.Rx.enc_eq, *]
set_option maxHeartbeats 4000000 in
theorem law0_Rx_ok {x : T.Rx} {n : Int} {r : (Int)} (h : law0_Rx (x, n) = some r) :
    O.call 36 [AV.pv (PV.agg (T.Rx.enc x)), AV.pv (PV.int IntKind.i64 n)] [] = some (AV.pv (PV.int IntKind.i64 r), []) := law0_Rx_all.1 (x, n) r h
set_option maxHeartbeats 4000000 in
theorem law0_Rx_L2_ok {n : Int} {i : Int} {x : T.Rx} {r : (Int)} (h : law0_Rx_L2 (n, i, x) = some r) :
    O.loop 36 2 ⟨[(1, AV.pv (PV.int IntKind.i64 n)), (2, AV.ptr 0 0), (6, AV.pv (PV.int IntKind.i64 i))], [(0, Blk.box (List.map AV.pv (T.Rx.enc x)))], 1⟩ = some (Ex.normal, ⟨[(1, AV.pv (PV.int IntKind.i64 r))], [(0, Blk.box (List.map AV.pv (T.Rx.enc x)))], 1⟩) := law0_Rx_all.2 (n, i, x) r h
def law0_FmtsLeft_L0_enc : ((Int × Int) ⊕ (Int)) → Ex × St
  | .inl y => (Ex.ret, ⟨[(1, AV.pv (PV.int IntKind.i64 y.1)), (4, AV.pv (PV.int IntKind.i64 y.2))], [], 0⟩)
  | .inr y => (Ex.normal, ⟨[(1, AV.pv (PV.int IntKind.i64 y)), (4, AV.undef)], [], 0⟩)
set_option maxHeartbeats 4000000 in
theorem law0_FmtsLeft_L0_ok {fs : (Sl T.Fmt)} {n : Int} {i : Int} {r : ((Int × Int) ⊕ (Int))} (h : law0_FmtsLeft_L0 (fs, n, i) = some r) :
    O.loop 37 0 ⟨[(0, AV.pv (PV.sl fs.nil (szc 5 fs.l) (List.map T.Fmt.enc fs.l))), (1, AV.pv (PV.int IntKind.i64 n)), (5, AV.pv (PV.int IntKind.i64 i))], [], 0⟩ = some (law0_FmtsLeft_L0_enc r) := by
  refine law0_FmtsLeft_L0.partial_correctness (fun p r => O.loop 37 0 ⟨[(0, AV.pv (PV.sl p.1.nil (szc 5 p.1.l) (List.map T.Fmt.enc p.1.l))), (1, AV.pv (PV.int IntKind.i64 p.2.1)), (5, AV.pv (PV.int IntKind.i64 p.2.2))], [], 0⟩ = some (law0_FmtsLeft_L0_enc r)) ?_ (fs, n, i) r h
  clear h r fs n i
  intro law0_FmtsLeft_L0 ih8
  rintro ⟨fs, n, i⟩ r h
  dsimp only at h ⊢
  by_cases h1 : (decide (i < (fs.l.length : Int))) = true
  rw [if_pos h1] at h
  obtain ⟨x3, h2, h⟩ := Option.bind_eq_some_iff.1 h
  have f1 := geti_nat h2 IntKind.i64
  have f2 := geti_map T.Fmt.enc h2
  try simp only [T.Fmt.enc_eq, encx.down, Nat.zero_add, Nat.reduceAdd] at f2
  have f3 := geti_szcT h2 5
  by_cases h4 : (decide ((x3.thn.length : Int) ≥ n)) = true
  rw [if_pos h4] at h
  cases h
  show _ = some (law0_FmtsLeft_L0_enc (.inl _))
  dsimp only [law0_FmtsLeft_L0_enc]
  clear ih8
  rotate_left
  rw [if_neg h4] at h; replace h4 := Bool.eq_false_iff.2 h4
  by_cases h5 : (decide ((x3.els.length : Int) ≥ n)) = true
  rw [if_pos h5] at h
  cases h
  show _ = some (law0_FmtsLeft_L0_enc (.inl _))
  dsimp only [law0_FmtsLeft_L0_enc]
  clear ih8
  rotate_left
  rw [if_neg h5] at h; replace h5 := Bool.eq_false_iff.2 h5
  have f4 := ih8 _ _ h
  try dsimp only at f4
  try simp only [T.Fmt.enc_eq, encx.down, Nat.zero_add, Nat.reduceAdd] at f4
  clear h
  clear ih8
  rotate_left
  rw [if_neg h1] at h; replace h1 := Bool.eq_false_iff.2 h1
  cases h
  show _ = some (law0_FmtsLeft_L0_enc (.inr _))
  dsimp only [law0_FmtsLeft_L0_enc]
  clear ih8
  rotate_left
  all_goals
    refine omega_L fn37 (by rfl) ?_
    simp (disch := first | assumption | rfl | exact Sure.mk (by kernel_rfl)) only [go_sem, coreG.down, tab.down, ↓reduceIte, Nat.reduceLeDiff, Nat.reduceEqDiff, Nat.reduceLT, Nat.reduceAdd, Nat.reduceSub, Nat.reduceMul, reduceCtorEq, Nat.reducePow, sp37_0, T.Fmt.enc_eq, *]
set_option maxHeartbeats 4000000 in
theorem law0_FmtsLeft_ok {fs : (Sl T.Fmt)} {n : Int} {r : (Int)} (h : law0_FmtsLeft fs n = some r) :
    O.call 37 [AV.pv (PV.sl fs.nil (szc 5 fs.l) (List.map T.Fmt.enc fs.l)), AV.pv (PV.int IntKind.i64 n)] [] = some (AV.pv (PV.int IntKind.i64 r), []) := by
  unfold law0_FmtsLeft at h
  obtain ⟨v2, h1, h⟩ := Option.bind_eq_some_iff.1 h
  have f1 := law0_FmtsLeft_L0_ok h1
  try simp only [T.Fmt.enc_eq, encx.down, Nat.zero_add, Nat.reduceAdd] at f1
  rcases v2 with y3 | y4
  dsimp only at h
  simp only [law0_FmtsLeft_L0_enc, T.Fmt.enc_eq, encx.down, Nat.zero_add, Nat.reduceAdd] at f1
  cases h
  rotate_left
  dsimp only at h
  simp only [law0_FmtsLeft_L0_enc, T.Fmt.enc_eq, encx.down, Nat.zero_add, Nat.reduceAdd] at f1
  cases h
  rotate_left
  all_goals
    refine omega_F rfl fn37 (by rfl) (by rfl) rfl ?_
    simp (disch := first | assumption | rfl | exact Sure.mk (by kernel_rfl)) only [go_sem, coreG.down, tab.down, ↓reduceIte, Nat.reduceLeDiff, Nat.reduceEqDiff, Nat.reduceLT, Nat.reduceAdd, Nat.reduceSub, Nat.reduceMul, reduceCtorEq, Nat.reducePow, sp37_0, T.Fmt.enc_eq, *]
set_option maxHeartbeats 4000000 in
theorem law0_Form_ok {f : T.Form} {n : Int} {r : (Int)} (h : law0_Form f n = some r) :
    O.call 22 [AV.pv (PV.agg (T.Form.enc f)), AV.pv (PV.int IntKind.i64 n)] [] = some (AV.pv (PV.int IntKind.i64 r), []) := by
  unfold law0_Form at h
  obtain ⟨v2, h1, h⟩ := Option.bind_eq_some_iff.1 h
  have f1 := law0_Rx_ok h1
  try simp only [T.Rx.enc_eq, encx.down, Nat.zero_add, Nat.reduceAdd] at f1
  by_cases h3 : (decide (v2 < (0 : Int))) = true
  rw [if_pos h3] at h
  cases h
  rotate_left
  rw [if_neg h3] at h; replace h3 := Bool.eq_false_iff.2 h3
  obtain ⟨v5, h4, h⟩ := Option.bind_eq_some_iff.1 h
  have f2 := law0_FmtsLeft_ok h4
  try simp only [T.Fmt.enc_eq, encx.down, Nat.zero_add, Nat.reduceAdd] at f2
  cases h
  rotate_left
  all_goals
    refine omega_F rfl fn22 (by rfl) (by rfl) rfl ?_
    simp (disch := first | assumption | rfl | exact Sure.mk (by kernel_rfl)) only [go_sem, coreG.down, tab.down, ↓reduceIte, Nat.reduceLeDiff, Nat.reduceEqDiff, Nat.reduceLT, Nat.reduceAdd, Nat.reduceSub, Nat.reduceMul, reduceCtorEq, Nat.reducePow, T.Form.enc_eq, *]
def law0_Snips_L2_enc (l : (Sl T.Snip)) (i : Int) : ((Int × Int) ⊕ (Int)) → Ex × St
  | .inl y => (Ex.ret, ⟨[(0, AV.pv (PV.sl l.nil (szc 18 l.l) (List.map T.Snip.enc l.l))), (1, AV.pv (PV.int IntKind.i64 y.1)), (4, AV.pv (PV.int IntKind.i64 y.2)), (5, AV.pv (PV.int IntKind.i64 i))], [], 0⟩)
  | .inr y => (Ex.normal, ⟨[(0, AV.pv (PV.sl l.nil (szc 18 l.l) (List.map T.Snip.enc l.l))), (1, AV.pv (PV.int IntKind.i64 y)), (4, AV.undef), (5, AV.pv (PV.int IntKind.i64 i))], [], 0⟩)
set_option maxHeartbeats 4000000 in
theorem law0_Snips_L2_ok {l : (Sl T.Snip)} {n : Int} {i : Int} {k : Int} {r : ((Int × Int) ⊕ (Int))} (h : law0_Snips_L2 (l, n, i, k) = some r) :
    O.loop 8 2 ⟨[(0, AV.pv (PV.sl l.nil (szc 18 l.l) (List.map T.Snip.enc l.l))), (1, AV.pv (PV.int IntKind.i64 n)), (5, AV.pv (PV.int IntKind.i64 i)), (6, AV.pv (PV.int IntKind.i64 k))], [], 0⟩ = some (law0_Snips_L2_enc l i r) := by
  refine law0_Snips_L2.partial_correctness (fun p r => O.loop 8 2 ⟨[(0, AV.pv (PV.sl p.1.nil (szc 18 p.1.l) (List.map T.Snip.enc p.1.l))), (1, AV.pv (PV.int IntKind.i64 p.2.1)), (5, AV.pv (PV.int IntKind.i64 p.2.2.1)), (6, AV.pv (PV.int IntKind.i64 p.2.2.2))], [], 0⟩ = some (law0_Snips_L2_enc p.1 p.2.2.1 r)) ?_ (l, n, i, k) r h
  clear h r l n i k
  intro law0_Snips_L2 ih9
  rintro ⟨l, n, i, k⟩ r h
  dsimp only at h ⊢
  obtain ⟨x2, h1, h⟩ := Option.bind_eq_some_iff.1 h
  have f1 := geti_nat h1 IntKind.i64
  have f2 := geti_map T.Snip.enc h1
  try simp only [T.Snip.enc_eq, encx.down, Nat.zero_add, Nat.reduceAdd] at f2
  have f3 := geti_szcT h1 18
  by_cases h3 : (decide (k < (x2.opts.l.length : Int))) = true
  rw [if_pos h3] at h
  obtain ⟨x5, h4, h⟩ := Option.bind_eq_some_iff.1 h
  have f4 := geti_nat h4 IntKind.i64
  have f5 := geti_map strE h4
  try simp only [strE, encx.down, Nat.zero_add, Nat.reduceAdd] at f5
  have f6 := geti_szcT h4 1
  by_cases h6 : (decide ((x5.length : Int) ≥ n)) = true
  rw [if_pos h6] at h
  cases h
  show _ = some (law0_Snips_L2_enc _ _ (.inl _))
  dsimp only [law0_Snips_L2_enc]
  clear ih9
  rotate_left
  rw [if_neg h6] at h; replace h6 := Bool.eq_false_iff.2 h6
  have f7 := ih9 _ _ h
  try dsimp only at f7
  try simp only [T.Snip.enc_eq, encx.down, Nat.zero_add, Nat.reduceAdd] at f7
  clear h
  clear ih9
  rotate_left
  rw [if_neg h3] at h; replace h3 := Bool.eq_false_iff.2 h3
  cases h
  show _ = some (law0_Snips_L2_enc _ _ (.inr _))
  dsimp only [law0_Snips_L2_enc]
  clear ih9
  rotate_left
  all_goals
    refine omega_L fn8 (by rfl) ?_
    simp (disch := first | assumption | rfl | exact Sure.mk (by kernel_rfl)) only [go_sem, coreG.down, tab.down, ↓reduceIte, Nat.reduceLeDiff, Nat.reduceEqDiff, Nat.reduceLT, Nat.reduceAdd, Nat.reduceSub, Nat.reduceMul, reduceCtorEq, Nat.reducePow, sp8_0, sp8_2, T.Snip.enc_eq, *]
def law0_Snips_L0_enc : ((Int × Int) ⊕ (Int)) → Ex × St
  | .inl y => (Ex.ret, ⟨[(1, AV.pv (PV.int IntKind.i64 y.1)), (4, AV.pv (PV.int IntKind.i64 y.2))], [], 0⟩)
  | .inr y => (Ex.normal, ⟨[(1, AV.pv (PV.int IntKind.i64 y)), (4, AV.undef)], [], 0⟩)
set_option maxHeartbeats 4000000 in
theorem law0_Snips_all : (∀ p r, law0_Snips p = some r → O.call 8 [AV.pv (PV.sl p.1.nil (szc 18 p.1.l) (List.map T.Snip.enc p.1.l)), AV.pv (PV.int IntKind.i64 p.2)] [] = some (AV.pv (PV.int IntKind.i64 r), [])) ∧ (∀ p r, law0_Snips_L0 p = some r → O.loop 8 0 ⟨[(0, AV.pv (PV.sl p.1.nil (szc 18 p.1.l) (List.map T.Snip.enc p.1.l))), (1, AV.pv (PV.int IntKind.i64 p.2.1)), (5, AV.pv (PV.int IntKind.i64 p.2.2))], [], 0⟩ = some (law0_Snips_L0_enc r)) := by
  refine law0_Snips.mutual_partial_correctness (fun p r => O.call 8 [AV.pv (PV.sl p.1.nil (szc 18 p.1.l) (List.map T.Snip.enc p.1.l)), AV.pv (PV.int IntKind.i64 p.2)] [] = some (AV.pv (PV.int IntKind.i64 r), [])) (fun p r => O.loop 8 0 ⟨[(0, AV.pv (PV.sl p.1.nil (szc 18 p.1.l) (List.map T.Snip.enc p.1.l))), (1, AV.pv (PV.int IntKind.i64 p.2.1)), (5, AV.pv (PV.int IntKind.i64 p.2.2))], [], 0⟩ = some (law0_Snips_L0_enc r)) ?_ ?_
  · intro law0_Snips_L0 ih2
    rintro ⟨l, n⟩ r h
    dsimp only at h ⊢
    obtain ⟨v2, h1, h⟩ := Option.bind_eq_some_iff.1 h
    have f1 := ih2 _ _ h1
    try dsimp only at f1
    try simp only [T.Snip.enc_eq, encx.down, Nat.zero_add, Nat.reduceAdd] at f1
    rcases v2 with y3 | y4
    dsimp only at h
    simp only [law0_Snips_L0_enc, T.Snip.enc_eq, encx.down, Nat.zero_add, Nat.reduceAdd] at f1
    cases h
    clear ih2
    rotate_left
    dsimp only at h
    simp only [law0_Snips_L0_enc, T.Snip.enc_eq, encx.down, Nat.zero_add, Nat.reduceAdd] at f1
    cases h
    clear ih2
    rotate_left
    all_goals
      refine omega_F rfl fn8 (by rfl) (by rfl) rfl ?_
      simp (disch := first | assumption | rfl | exact Sure.mk (by kernel_rfl)) only [go_sem, coreG.down, tab.down, ↓reduceIte, Nat.reduceLeDiff, Nat.reduceEqDiff, Nat.reduceLT, Nat.reduceAdd, Nat.reduceSub, Nat.reduceMul, reduceCtorEq, Nat.reducePow, sp8_0, sp8_2, T.Snip.enc_eq, *]
  · intro law0_Snips law0_Snips_L0 ih1 ih2
    rintro ⟨l, n, i⟩ r h
    dsimp only at h ⊢
    by_cases g1 : ((decide (i < (l.l.length : Int))) && (decide (n ≥ (0 : Int)))) = true
    rw [if_pos g1] at h
    rcases (by intro u0 u1; cases u0 <;> cases u1 <;> simp [Dum] : ∀ u0 u1 : Bool, (u0 && u1) = true → (u0 = true ∧ u1 = true)) (decide (i < (l.l.length : Int))) (decide (n ≥ (0 : Int))) g1 with ⟨h1, h2⟩
    clear g1
    obtain ⟨x4, h3, h⟩ := Option.bind_eq_some_iff.1 h
    have f2 := geti_nat h3 IntKind.i64
    have f3 := geti_map T.Snip.enc h3
    try simp only [T.Snip.enc_eq, encx.down, Nat.zero_add, Nat.reduceAdd] at f3
    have f4 := geti_szcT h3 18
    by_cases h5 : (decide ((x4.text.length : Int) ≥ n)) = true
    rw [if_pos h5] at h
    cases h
    show _ = some (law0_Snips_L0_enc (.inl _))
    dsimp only [law0_Snips_L0_enc]
    clear ih1 ih2
    rotate_left
    rw [if_neg h5] at h; replace h5 := Bool.eq_false_iff.2 h5
    by_cases h6 : (decide ((x4.opts.l.length : Int) ≥ n)) = true
    rw [if_pos h6] at h
    cases h
    show _ = some (law0_Snips_L0_enc (.inl _))
    dsimp only [law0_Snips_L0_enc]
    clear ih1 ih2
    rotate_left
    rw [if_neg h6] at h; replace h6 := Bool.eq_false_iff.2 h6
    obtain ⟨v8, h7, h⟩ := Option.bind_eq_some_iff.1 h
    have f5 := law0_Form_ok h7
    try simp only [T.Form.enc_eq, encx.down, Nat.zero_add, Nat.reduceAdd] at f5
    obtain ⟨v10, h9, h⟩ := Option.bind_eq_some_iff.1 h
    have f6 := law0_Snips_L2_ok h9
    try simp only [T.Snip.enc_eq, encx.down, Nat.zero_add, Nat.reduceAdd] at f6
    rcases v10 with y11 | y12
    dsimp only at h
    simp only [law0_Snips_L2_enc, T.Snip.enc_eq, encx.down, Nat.zero_add, Nat.reduceAdd] at f6
    cases h
    show _ = some (law0_Snips_L0_enc (.inl _))
    dsimp only [law0_Snips_L0_enc]
    clear ih1 ih2
    rotate_left
    dsimp only at h
    simp only [law0_Snips_L2_enc, T.Snip.enc_eq, encx.down, Nat.zero_add, Nat.reduceAdd] at f6
    by_cases h13 : (decide (y12 ≥ (0 : Int))) = true
    rw [if_pos h13] at h
    obtain ⟨v15, h14, h⟩ := Option.bind_eq_some_iff.1 h
    have f7 := ih1 _ _ h14
    try dsimp only at f7
    try simp only [T.Snip.enc_eq, encx.down, Nat.zero_add, Nat.reduceAdd] at f7
    have f8 := ih2 _ _ h
    try dsimp only at f8
    try simp only [T.Snip.enc_eq, encx.down, Nat.zero_add, Nat.reduceAdd] at f8
    clear h
    clear ih1 ih2
    rotate_left
    rw [if_neg h13] at h; replace h13 := Bool.eq_false_iff.2 h13
    have f9 := ih2 _ _ h
    try dsimp only at f9
    try simp only [T.Snip.enc_eq, encx.down, Nat.zero_add, Nat.reduceAdd] at f9
    clear h
    clear ih1 ih2
    rotate_left
    focus
      rw [if_neg g1] at h; replace g1 := Bool.eq_false_iff.2 g1
      rcases (by intro u0 u1; cases u0 <;> cases u1 <;> simp [Dum] : ∀ u0 u1 : Bool, (u0 && u1) = false → (u0 = false ∧ Dum) ∨ (u0 = true ∧ u1 = false)) (decide (i < (l.l.length : Int))) (decide (n ≥ (0 : Int))) g1 with ⟨h1, h2⟩ | ⟨h1, h2⟩
      clear g1
      all_goals
        cases h
        show _ = some (law0_Snips_L0_enc (.inr _))
        dsimp only [law0_Snips_L0_enc]
        clear ih1 ih2
        rotate_left
    rotate_left 2
    all_goals
      refine omega_L fn8 (by rfl) ?_
      simp (disch := first | assumption | rfl | exact Sure.mk (by kernel_rfl)) only [go_sem, coreG.down, tab.down, ↓reduceIte, Nat.reduceLeDiff, Nat.reduceEqDiff, Nat.reduceLT, Nat.reduceAdd, Nat.reduceSub, Nat.reduceMul, reduceCtorEq, Nat.reducePow, sp8_0, sp8_2, T.Snip.enc_eq, *]
set_option maxHeartbeats 4000000 in
theorem law0_Snips_ok {l : (Sl T.Snip)} {n : Int} {r : (Int)} (h : law0_Snips (l, n) = some r) :
    O.call 8 [AV.pv (PV.sl l.nil (szc 18 l.l) (List.map T.Snip.enc l.l)), AV.pv (PV.int IntKind.i64 n)] [] = some (AV.pv (PV.int IntKind.i64 r), []) := law0_Snips_all.1 (l, n) r h
set_option maxHeartbeats 4000000 in
theorem law0_Snips_L0_ok {l : (Sl T.Snip)} {n : Int} {i : Int} {r : ((Int × Int) ⊕ (Int))} (h : law0_Snips_L0 (l, n, i) = some r) :
    O.loop 8 0 ⟨[(0, AV.pv (PV.sl l.nil (szc 18 l.l) (List.map T.Snip.enc l.l))), (1, AV.pv (PV.int IntKind.i64 n)), (5, AV.pv (PV.int IntKind.i64 i))], [], 0⟩ = some (law0_Snips_L0_enc r) := law0_Snips_all.2 (l, n, i) r h
set_option maxHeartbeats 4000000 in
theorem law20_text_ok {s : Bytes} {r : (T.Snip)} (h : law20_text s = some r) :
    O.call 12 [AV.pv (PV.str s)] [] = some (AV.pv (PV.agg (T.Snip.enc r)), []) := by
  unfold law20_text at h
  cases h
  rotate_left
  all_goals
    refine omega_F rfl fn12 (by rfl) (by rfl) rfl ?_
    simp (disch := first | assumption | rfl | exact Sure.mk (by kernel_rfl)) only [go_sem, coreG.down, tab.down, ↓reduceIte, Nat.reduceLeDiff, Nat.reduceEqDiff, Nat.reduceLT, Nat.reduceAdd, Nat.reduceSub, Nat.reduceMul, reduceCtorEq, Nat.reducePow, T.Snip.enc_eq, *]
set_option maxHeartbeats 4000000 in
theorem law20_NodeJoin_L0_ok {s : (Sl T.Snip)} {all_ : Bytes} {others : Int} {i : Int} {in_ : (List T.Snip)} {r : (Bytes × Int × (List T.Snip))} (h : law20_NodeJoin_L0 (s, all_, others, i, in_) = some r) :
    O.loop 4 0 ⟨[(0, AV.pv (PV.sl s.nil (szc 18 s.l) (List.map T.Snip.enc s.l))), (3, AV.row 0 in_.length 0 in_.length), (4, AV.pv (PV.str all_)), (5, AV.pv (PV.int IntKind.i64 others)), (6, AV.pv (PV.int IntKind.i64 i))], [(0, Blk.row in_.isEmpty (szc 18 in_) (List.map T.Snip.enc in_))], 1⟩ = some (Ex.normal, ⟨[(3, AV.row 0 r.2.2.length 0 r.2.2.length), (4, AV.pv (PV.str r.1)), (5, AV.pv (PV.int IntKind.i64 r.2.1))], [(0, Blk.row r.2.2.isEmpty (szc 18 r.2.2) (List.map T.Snip.enc r.2.2))], 1⟩) := by
  refine law20_NodeJoin_L0.partial_correctness (fun p r => O.loop 4 0 ⟨[(0, AV.pv (PV.sl p.1.nil (szc 18 p.1.l) (List.map T.Snip.enc p.1.l))), (3, AV.row 0 p.2.2.2.2.length 0 p.2.2.2.2.length), (4, AV.pv (PV.str p.2.1)), (5, AV.pv (PV.int IntKind.i64 p.2.2.1)), (6, AV.pv (PV.int IntKind.i64 p.2.2.2.1))], [(0, Blk.row p.2.2.2.2.isEmpty (szc 18 p.2.2.2.2) (List.map T.Snip.enc p.2.2.2.2))], 1⟩ = some (Ex.normal, ⟨[(3, AV.row 0 r.2.2.length 0 r.2.2.length), (4, AV.pv (PV.str r.1)), (5, AV.pv (PV.int IntKind.i64 r.2.1))], [(0, Blk.row r.2.2.isEmpty (szc 18 r.2.2) (List.map T.Snip.enc r.2.2))], 1⟩)) ?_ (s, all_, others, i, in_) r h
  clear h r s all_ others i in_
  intro law20_NodeJoin_L0 ih11
  rintro ⟨s, all_, others, i, in_⟩ r h
  dsimp only at h ⊢
  by_cases h1 : (decide (i < (s.l.length : Int))) = true
  rw [if_pos h1] at h
  obtain ⟨x3, h2, h⟩ := Option.bind_eq_some_iff.1 h
  have f1 := geti_nat h2 IntKind.i64
  have f2 := geti_map T.Snip.enc h2
  try simp only [T.Snip.enc_eq, encx.down, Nat.zero_add, Nat.reduceAdd] at f2
  have f3 := geti_szcT h2 18
  by_cases h4 : (x3.kind == (0 : Int)) = true
  rw [if_pos h4] at h
  obtain ⟨v6, h5, h⟩ := Option.bind_eq_some_iff.1 h
  have f4 := law20_text_ok h5
  try simp only [T.Snip.enc_eq, encx.down, Nat.zero_add, Nat.reduceAdd] at f4
  by_cases h7 : ¬ (roomOK (in_.length + 1) 224 = true)
  rw [if_neg h7] at h; cases h
  replace h7 := Decidable.of_not_not h7; rw [if_pos h7] at h
  have f5 := h7
  have f6 := fun te β nx c0 (h1 : 18 = te.size) (h2 : roomOK (in_.length + 1) te.bytes = true) => rowApp_G te β 18 nx T.Snip.enc in_ c0 [] h1 h2
  by_cases h8 : ¬ (all_.length + x3.text.length ≤ 2 ^ 62)
  rw [if_neg h8] at h; cases h
  replace h8 := Decidable.of_not_not h8; rw [if_pos h8] at h
  have f7 := eq_true h8
  have f8 : List.map T.Snip.enc in_ ++ [[PV.int IntKind.i64 v6.kind, PV.str v6.text, PV.int IntKind.i64 v6.n, PV.bool v6.has, PV.bool v6.turned, PV.int IntKind.i64 v6.form.rx.kind, PV.str v6.form.rx.char, PV.bool v6.form.rx.not, PV.sl v6.form.rx.rows.nil (szc 2 v6.form.rx.rows.l) (List.map T.Row.enc v6.form.rx.rows.l), PV.int IntKind.i64 v6.form.rx.min, PV.int IntKind.i64 v6.form.rx.max, PV.bool v6.form.rx.lazy, PV.sl v6.form.rx.kids.nil (szc 8 v6.form.rx.kids.l) (List.map T.Rx.enc v6.form.rx.kids.l), PV.sl v6.form.fmts.nil (szc 5 v6.form.fmts.l) (List.map T.Fmt.enc v6.form.fmts.l), PV.bool v6.form.fold, PV.bool v6.form.all, PV.sl v6.opts.nil (szc 1 v6.opts.l) (List.map strE v6.opts.l), PV.sl v6.kids.nil (szc 18 v6.kids.l) (List.map T.Snip.enc v6.kids.l)]] = List.map T.Snip.enc (in_ ++ [v6]) := by simp only [List.map_append, List.map_cons, List.map_nil, u8_nat, u8_wrap, szc_nil, T.Snip.enc_eq]
  have f9 := ih11 _ _ h
  try dsimp only at f9
  try simp only [T.Snip.enc_eq, encx.down, Nat.zero_add, Nat.reduceAdd] at f9
  clear h
  clear ih11
  rotate_left
  rw [if_neg h4] at h; replace h4 := Bool.eq_false_iff.2 h4
  by_cases h9 : ¬ (roomOK (in_.length + 1) 224 = true)
  rw [if_neg h9] at h; cases h
  replace h9 := Decidable.of_not_not h9; rw [if_pos h9] at h
  have f10 := h9
  have f11 := fun te β nx c0 (h1 : 18 = te.size) (h2 : roomOK (in_.length + 1) te.bytes = true) => rowApp_G te β 18 nx T.Snip.enc in_ c0 [] h1 h2
  have f12 : List.map T.Snip.enc in_ ++ [[PV.int IntKind.i64 x3.kind, PV.str x3.text, PV.int IntKind.i64 x3.n, PV.bool x3.has, PV.bool x3.turned, PV.int IntKind.i64 x3.form.rx.kind, PV.str x3.form.rx.char, PV.bool x3.form.rx.not, PV.sl x3.form.rx.rows.nil (szc 2 x3.form.rx.rows.l) (List.map T.Row.enc x3.form.rx.rows.l), PV.int IntKind.i64 x3.form.rx.min, PV.int IntKind.i64 x3.form.rx.max, PV.bool x3.form.rx.lazy, PV.sl x3.form.rx.kids.nil (szc 8 x3.form.rx.kids.l) (List.map T.Rx.enc x3.form.rx.kids.l), PV.sl x3.form.fmts.nil (szc 5 x3.form.fmts.l) (List.map T.Fmt.enc x3.form.fmts.l), PV.bool x3.form.fold, PV.bool x3.form.all, PV.sl x3.opts.nil (szc 1 x3.opts.l) (List.map strE x3.opts.l), PV.sl x3.kids.nil (szc 18 x3.kids.l) (List.map T.Snip.enc x3.kids.l)]] = List.map T.Snip.enc (in_ ++ [x3]) := by simp only [List.map_append, List.map_cons, List.map_nil, u8_nat, u8_wrap, szc_nil, T.Snip.enc_eq]
  have f13 := ih11 _ _ h
  try dsimp only at f13
  try simp only [T.Snip.enc_eq, encx.down, Nat.zero_add, Nat.reduceAdd] at f13
  clear h
  clear ih11
  rotate_left
  rw [if_neg h1] at h; replace h1 := Bool.eq_false_iff.2 h1
  cases h
  clear ih11
  rotate_left
  all_goals
    refine omega_L fn4 (by rfl) ?_
    simp (disch := first | assumption | rfl | exact Sure.mk (by kernel_rfl)) only [go_sem, coreG.down, tab.down, ↓reduceIte, Nat.reduceLeDiff, Nat.reduceEqDiff, Nat.reduceLT, Nat.reduceAdd, Nat.reduceSub, Nat.reduceMul, reduceCtorEq, Nat.reducePow, sp4_0, sp4_2, T.Snip.enc_eq, *]
set_option maxHeartbeats 4000000 in
theorem slices_Clone_LRow_ok {s : (Sl T.Row)} {r : ((Sl T.Row))} (h : slices_Clone_LRow s = some r) :
    O.call 58 [AV.pv (PV.sl s.nil (szc 2 s.l) (List.map T.Row.enc s.l))] [] = some (AV.pv (PV.sl r.nil (szc 2 r.l) (List.map T.Row.enc r.l)), []) := by
  unfold slices_Clone_LRow at h
  by_cases h1 : s.nil = true
  rw [if_pos h1] at h
  cases h
  rotate_left
  rw [if_neg h1] at h; replace h1 := Bool.eq_false_iff.2 h1
  have f1 : (szc 2 s.l = 2 ∨ List.map T.Row.enc s.l = []) = True := szc_or _ _ _
  by_cases h2 : ¬ (roomOK (s.l.length) 32 = true)
  rw [if_neg h2] at h; cases h
  replace h2 := Decidable.of_not_not h2; rw [if_pos h2] at h
  have f2 := h2
  cases h
  rotate_left
  all_goals
    refine omega_F rfl fn58 (by rfl) (by rfl) rfl ?_
    simp (disch := first | assumption | rfl | exact Sure.mk (by kernel_rfl)) only [go_sem, coreG.down, tab.down, ↓reduceIte, Nat.reduceLeDiff, Nat.reduceEqDiff, Nat.reduceLT, Nat.reduceAdd, Nat.reduceSub, Nat.reduceMul, reduceCtorEq, Nat.reducePow, T.Row.enc_eq, *]
set_option maxHeartbeats 4000000 in
theorem rxtree_Clone_all : (∀ p r, rxtree_Clone p = some r → O.call 49 [AV.pv (PV.agg (T.Rx.enc p))] [] = some (AV.pv (PV.agg (T.Rx.enc r)), [])) ∧ (∀ p r, rxtree_Clone_L0 p = some r → O.loop 49 0 ⟨[(1, AV.ptr 0 0), (2, AV.ptr 1 0), (3, AV.row 2 p.2.2.2.2.2.length 0 p.2.2.2.2.2.length), (11, AV.pv (PV.sl p.1.nil (szc 8 p.1.l) (List.map T.Rx.enc p.1.l))), (12, AV.pv (PV.int IntKind.i64 p.2.1)), (13, AV.pv (PV.int IntKind.i64 p.2.2.1))], [(0, Blk.box (List.map AV.pv (T.Rx.enc p.2.2.2.1))), (1, Blk.box (List.map AV.pv (T.Rx.enc p.2.2.2.2.1))), (2, Blk.row p.2.2.2.2.2.isEmpty (szc 8 p.2.2.2.2.2) (List.map T.Rx.enc p.2.2.2.2.2))], 3⟩ = some (Ex.normal, ⟨[(1, AV.ptr 0 0), (2, AV.ptr 1 0), (3, AV.row 2 r.length 0 r.length)], [(0, Blk.box (List.map AV.pv (T.Rx.enc p.2.2.2.1))), (1, Blk.box (List.map AV.pv (T.Rx.enc p.2.2.2.2.1))), (2, Blk.row r.isEmpty (szc 8 r) (List.map T.Rx.enc r))], 3⟩)) := by
  refine rxtree_Clone.mutual_partial_correctness (fun p r => O.call 49 [AV.pv (PV.agg (T.Rx.enc p))] [] = some (AV.pv (PV.agg (T.Rx.enc r)), [])) (fun p r => O.loop 49 0 ⟨[(1, AV.ptr 0 0), (2, AV.ptr 1 0), (3, AV.row 2 p.2.2.2.2.2.length 0 p.2.2.2.2.2.length), (11, AV.pv (PV.sl p.1.nil (szc 8 p.1.l) (List.map T.Rx.enc p.1.l))), (12, AV.pv (PV.int IntKind.i64 p.2.1)), (13, AV.pv (PV.int IntKind.i64 p.2.2.1))], [(0, Blk.box (List.map AV.pv (T.Rx.enc p.2.2.2.1))), (1, Blk.box (List.map AV.pv (T.Rx.enc p.2.2.2.2.1))), (2, Blk.row p.2.2.2.2.2.isEmpty (szc 8 p.2.2.2.2.2) (List.map T.Rx.enc p.2.2.2.2.2))], 3⟩ = some (Ex.normal, ⟨[(1, AV.ptr 0 0), (2, AV.ptr 1 0), (3, AV.row 2 r.length 0 r.length)], [(0, Blk.box (List.map AV.pv (T.Rx.enc p.2.2.2.1))), (1, Blk.box (List.map AV.pv (T.Rx.enc p.2.2.2.2.1))), (2, Blk.row r.isEmpty (szc 8 r) (List.map T.Rx.enc r))], 3⟩)) ?_ ?_
  · intro rxtree_Clone_L0 ih19
    rintro x r h
    try dsimp only at h ⊢
    obtain ⟨v2, h1, h⟩ := Option.bind_eq_some_iff.1 h
    have f1 := slices_Clone_LRow_ok h1
    try simp only [T.Row.enc_eq, encx.down, Nat.zero_add, Nat.reduceAdd] at f1
    obtain ⟨v4, h3, h⟩ := Option.bind_eq_some_iff.1 h
    have f2 := ih19 _ _ h3
    try dsimp only at f2
    try simp only [T.Rx.enc_eq, encx.down, Nat.zero_add, Nat.reduceAdd] at f2
    cases h
    clear ih19
    rotate_left
    all_goals
      refine omega_F rfl fn49 (by rfl) (by rfl) rfl ?_
      simp (disch := first | assumption | rfl | exact Sure.mk (by kernel_rfl)) only [go_sem, coreG.down, tab.down, ↓reduceIte, Nat.reduceLeDiff, Nat.reduceEqDiff, Nat.reduceLT, Nat.reduceAdd, Nat.reduceSub, Nat.reduceMul, reduceCtorEq, Nat.reducePow, sp49_0, T.Rx.enc_eq, *]
  · intro rxtree_Clone rxtree_Clone_L0 ih17 ih19
    rintro ⟨t11, t12, t13, x, t2, kids⟩ r h
    dsimp only at h ⊢
    by_cases h1 : (decide (t13 < t12)) = true
    rw [if_pos h1] at h
    obtain ⟨x3, h2, h⟩ := Option.bind_eq_some_iff.1 h
    have f1 := geti_nat h2 IntKind.i64
    have f2 := geti_map T.Rx.enc h2
    try simp only [T.Rx.enc_eq, encx.down, Nat.zero_add, Nat.reduceAdd] at f2
    have f3 := geti_szcT h2 8
    obtain ⟨v5, h4, h⟩ := Option.bind_eq_some_iff.1 h
    have f4 := ih17 _ _ h4
    try dsimp only at f4
    try simp only [T.Rx.enc_eq, encx.down, Nat.zero_add, Nat.reduceAdd] at f4
    by_cases h6 : ¬ (roomOK (kids.length + 1) 104 = true)
    rw [if_neg h6] at h; cases h
    replace h6 := Decidable.of_not_not h6; rw [if_pos h6] at h
    have f5 := h6
    have f6 := fun te β nx c0 (h1 : 8 = te.size) (h2 : roomOK (kids.length + 1) te.bytes = true) => rowApp_G te β 8 nx T.Rx.enc kids c0 [] h1 h2
    have f7 : List.map T.Rx.enc kids ++ [[PV.int IntKind.i64 v5.kind, PV.str v5.char, PV.bool v5.not, PV.sl v5.rows.nil (szc 2 v5.rows.l) (List.map T.Row.enc v5.rows.l), PV.int IntKind.i64 v5.min, PV.int IntKind.i64 v5.max, PV.bool v5.lazy, PV.sl v5.kids.nil (szc 8 v5.kids.l) (List.map T.Rx.enc v5.kids.l)]] = List.map T.Rx.enc (kids ++ [v5]) := by simp only [List.map_append, List.map_cons, List.map_nil, u8_nat, u8_wrap, szc_nil, T.Rx.enc_eq]
    have f8 := ih19 _ _ h
    try dsimp only at f8
    try simp only [T.Rx.enc_eq, encx.down, Nat.zero_add, Nat.reduceAdd] at f8
    clear h
    clear ih17 ih19
    rotate_left
    rw [if_neg h1] at h; replace h1 := Bool.eq_false_iff.2 h1
    cases h
    clear ih17 ih19
    rotate_left
    all_goals
      refine omega_L fn49 (by rfl) ?_
      simp (disch := first | assumption | rfl | exact Sure.mk (by kernel_rfl)) only [go_sem, coreG.down, tab.down, ↓reduceIte, Nat.reduceLeDiff, Nat.reduceEqDiff, Nat.reduceLT, Nat.reduceAdd, Nat.reduceSub, Nat.reduceMul, reduceCtorEq, Nat.reducePow, sp49_0, T.Rx.enc_eq, *]
set_option maxHeartbeats 4000000 in
theorem rxtree_Clone_ok {x : T.Rx} {r : (T.Rx)} (h : rxtree_Clone x = some r) :
    O.call 49 [AV.pv (PV.agg (T.Rx.enc x))] [] = some (AV.pv (PV.agg (T.Rx.enc r)), []) := rxtree_Clone_all.1 x r h
set_option maxHeartbeats 4000000 in
theorem rxtree_Clone_L0_ok {t11 : (Sl T.Rx)} {t12 : Int} {t13 : Int} {x : T.Rx} {t2 : T.Rx} {kids : (List T.Rx)} {r : ((List T.Rx))} (h : rxtree_Clone_L0 (t11, t12, t13, x, t2, kids) = some r) :
    O.loop 49 0 ⟨[(1, AV.ptr 0 0), (2, AV.ptr 1 0), (3, AV.row 2 kids.length 0 kids.length), (11, AV.pv (PV.sl t11.nil (szc 8 t11.l) (List.map T.Rx.enc t11.l))), (12, AV.pv (PV.int IntKind.i64 t12)), (13, AV.pv (PV.int IntKind.i64 t13))], [(0, Blk.box (List.map AV.pv (T.Rx.enc x))), (1, Blk.box (List.map AV.pv (T.Rx.enc t2))), (2, Blk.row kids.isEmpty (szc 8 kids) (List.map T.Rx.enc kids))], 3⟩ = some (Ex.normal, ⟨[(1, AV.ptr 0 0), (2, AV.ptr 1 0), (3, AV.row 2 r.length 0 r.length)], [(0, Blk.box (List.map AV.pv (T.Rx.enc x))), (1, Blk.box (List.map AV.pv (T.Rx.enc t2))), (2, Blk.row r.isEmpty (szc 8 r) (List.map T.Rx.enc r))], 3⟩) := rxtree_Clone_all.2 (t11, t12, t13, x, t2, kids) r h
set_option maxHeartbeats 4000000 in
theorem slices_Clone_LFmt_ok {s : (Sl T.Fmt)} {r : ((Sl T.Fmt))} (h : slices_Clone_LFmt s = some r) :
    O.call 50 [AV.pv (PV.sl s.nil (szc 5 s.l) (List.map T.Fmt.enc s.l))] [] = some (AV.pv (PV.sl r.nil (szc 5 r.l) (List.map T.Fmt.enc r.l)), []) := by
  unfold slices_Clone_LFmt at h
  by_cases h1 : s.nil = true
  rw [if_pos h1] at h
  cases h
  rotate_left
  rw [if_neg h1] at h; replace h1 := Bool.eq_false_iff.2 h1
  have f1 : (szc 5 s.l = 5 ∨ List.map T.Fmt.enc s.l = []) = True := szc_or _ _ _
  by_cases h2 : ¬ (roomOK (s.l.length) 56 = true)
  rw [if_neg h2] at h; cases h
  replace h2 := Decidable.of_not_not h2; rw [if_pos h2] at h
  have f2 := h2
  cases h
  rotate_left
  all_goals
    refine omega_F rfl fn50 (by rfl) (by rfl) rfl ?_
    simp (disch := first | assumption | rfl | exact Sure.mk (by kernel_rfl)) only [go_sem, coreG.down, tab.down, ↓reduceIte, Nat.reduceLeDiff, Nat.reduceEqDiff, Nat.reduceLT, Nat.reduceAdd, Nat.reduceSub, Nat.reduceMul, reduceCtorEq, Nat.reducePow, T.Fmt.enc_eq, *]
set_option maxHeartbeats 4000000 in
theorem xform_Clone_ok {f : T.Form} {r : (T.Form)} (h : xform_Clone f = some r) :
    O.call 41 [AV.pv (PV.agg (T.Form.enc f))] [] = some (AV.pv (PV.agg (T.Form.enc r)), []) := by
  unfold xform_Clone at h
  obtain ⟨v2, h1, h⟩ := Option.bind_eq_some_iff.1 h
  have f1 := rxtree_Clone_ok h1
  try simp only [T.Rx.enc_eq, encx.down, Nat.zero_add, Nat.reduceAdd] at f1
  obtain ⟨v4, h3, h⟩ := Option.bind_eq_some_iff.1 h
  have f2 := slices_Clone_LFmt_ok h3
  try simp only [T.Fmt.enc_eq, encx.down, Nat.zero_add, Nat.reduceAdd] at f2
  cases h
  rotate_left
  all_goals
    refine omega_F rfl fn41 (by rfl) (by rfl) rfl ?_
    simp (disch := first | assumption | rfl | exact Sure.mk (by kernel_rfl)) only [go_sem, coreG.down, tab.down, ↓reduceIte, Nat.reduceLeDiff, Nat.reduceEqDiff, Nat.reduceLT, Nat.reduceAdd, Nat.reduceSub, Nat.reduceMul, reduceCtorEq, Nat.reducePow, T.Form.enc_eq, *]
set_option maxHeartbeats 4000000 in
theorem slices_Clone_Lstring_ok {s : (Sl Bytes)} {r : ((Sl Bytes))} (h : slices_Clone_Lstring s = some r) :
    O.call 42 [AV.pv (PV.sl s.nil (szc 1 s.l) (List.map strE s.l))] [] = some (AV.pv (PV.sl r.nil (szc 1 r.l) (List.map strE r.l)), []) := by
  unfold slices_Clone_Lstring at h
  by_cases h1 : s.nil = true
  rw [if_pos h1] at h
  cases h
  rotate_left
  rw [if_neg h1] at h; replace h1 := Bool.eq_false_iff.2 h1
  have f1 : (szc 1 s.l = 1 ∨ List.map strE s.l = []) = True := szc_or _ _ _
  by_cases h2 : ¬ (roomOK (s.l.length) 16 = true)
  rw [if_neg h2] at h; cases h
  replace h2 := Decidable.of_not_not h2; rw [if_pos h2] at h
  have f2 := h2
  cases h
  rotate_left
  all_goals
    refine omega_F rfl fn42 (by rfl) (by rfl) rfl ?_
    simp (disch := first | assumption | rfl | exact Sure.mk (by kernel_rfl)) only [go_sem, coreG.down, tab.down, ↓reduceIte, Nat.reduceLeDiff, Nat.reduceEqDiff, Nat.reduceLT, Nat.reduceAdd, Nat.reduceSub, Nat.reduceMul, reduceCtorEq, Nat.reducePow, strE, *]
set_option maxHeartbeats 4000000 in
theorem snode_Clone_all : (∀ p r, snode_Clone p = some r → O.call 28 [AV.pv (PV.sl p.nil (szc 18 p.l) (List.map T.Snip.enc p.l))] [] = some (AV.pv (PV.sl r.nil (szc 18 r.l) (List.map T.Snip.enc r.l)), [])) ∧ (∀ p r, snode_Clone_L0 p = some r → O.loop 28 0 ⟨[(3, AV.row 0 p.2.2.2.length 0 p.2.2.2.length), (6, AV.pv (PV.sl p.1.nil (szc 18 p.1.l) (List.map T.Snip.enc p.1.l))), (7, AV.pv (PV.int IntKind.i64 p.2.1)), (8, AV.pv (PV.int IntKind.i64 p.2.2.1))], [(0, Blk.row p.2.2.2.isEmpty (szc 18 p.2.2.2) (List.map T.Snip.enc p.2.2.2))], 1⟩ = some (Ex.normal, ⟨[(3, AV.row 0 r.length 0 r.length)], [(0, Blk.row r.isEmpty (szc 18 r) (List.map T.Snip.enc r))], 1⟩)) := by
  refine snode_Clone.mutual_partial_correctness (fun p r => O.call 28 [AV.pv (PV.sl p.nil (szc 18 p.l) (List.map T.Snip.enc p.l))] [] = some (AV.pv (PV.sl r.nil (szc 18 r.l) (List.map T.Snip.enc r.l)), [])) (fun p r => O.loop 28 0 ⟨[(3, AV.row 0 p.2.2.2.length 0 p.2.2.2.length), (6, AV.pv (PV.sl p.1.nil (szc 18 p.1.l) (List.map T.Snip.enc p.1.l))), (7, AV.pv (PV.int IntKind.i64 p.2.1)), (8, AV.pv (PV.int IntKind.i64 p.2.2.1))], [(0, Blk.row p.2.2.2.isEmpty (szc 18 p.2.2.2) (List.map T.Snip.enc p.2.2.2))], 1⟩ = some (Ex.normal, ⟨[(3, AV.row 0 r.length 0 r.length)], [(0, Blk.row r.isEmpty (szc 18 r) (List.map T.Snip.enc r))], 1⟩)) ?_ ?_
  · intro snode_Clone_L0 ih15
    rintro l r h
    try dsimp only at h ⊢
    obtain ⟨v2, h1, h⟩ := Option.bind_eq_some_iff.1 h
    have f1 := ih15 _ _ h1
    try dsimp only at f1
    try simp only [T.Snip.enc_eq, encx.down, Nat.zero_add, Nat.reduceAdd] at f1
    cases h
    clear ih15
    rotate_left
    all_goals
      refine omega_F rfl fn28 (by rfl) (by rfl) rfl ?_
      simp (disch := first | assumption | rfl | exact Sure.mk (by kernel_rfl)) only [go_sem, coreG.down, tab.down, ↓reduceIte, Nat.reduceLeDiff, Nat.reduceEqDiff, Nat.reduceLT, Nat.reduceAdd, Nat.reduceSub, Nat.reduceMul, reduceCtorEq, Nat.reducePow, sp28_0, T.Snip.enc_eq, *]
  · intro snode_Clone snode_Clone_L0 ih14 ih15
    rintro ⟨t6, t7, t8, out⟩ r h
    dsimp only at h ⊢
    by_cases h1 : (decide (t8 < t7)) = true
    rw [if_pos h1] at h
    obtain ⟨x3, h2, h⟩ := Option.bind_eq_some_iff.1 h
    have f1 := geti_nat h2 IntKind.i64
    have f2 := geti_map T.Snip.enc h2
    try simp only [T.Snip.enc_eq, encx.down, Nat.zero_add, Nat.reduceAdd] at f2
    have f3 := geti_szcT h2 18
    obtain ⟨v5, h4, h⟩ := Option.bind_eq_some_iff.1 h
    have f4 := xform_Clone_ok h4
    try simp only [T.Form.enc_eq, encx.down, Nat.zero_add, Nat.reduceAdd] at f4
    obtain ⟨v7, h6, h⟩ := Option.bind_eq_some_iff.1 h
    have f5 := slices_Clone_Lstring_ok h6
    try simp only [strE, encx.down, Nat.zero_add, Nat.reduceAdd] at f5
    obtain ⟨v9, h8, h⟩ := Option.bind_eq_some_iff.1 h
    have f6 := ih14 _ _ h8
    try dsimp only at f6
    try simp only [T.Snip.enc_eq, encx.down, Nat.zero_add, Nat.reduceAdd] at f6
    by_cases h10 : ¬ (roomOK (out.length + 1) 224 = true)
    rw [if_neg h10] at h; cases h
    replace h10 := Decidable.of_not_not h10; rw [if_pos h10] at h
    have f7 := h10
    have f8 := fun te β nx c0 (h1 : 18 = te.size) (h2 : roomOK (out.length + 1) te.bytes = true) => rowApp_G te β 18 nx T.Snip.enc out c0 [] h1 h2
    have f9 : List.map T.Snip.enc out ++ [[PV.int IntKind.i64 x3.kind, PV.str x3.text, PV.int IntKind.i64 x3.n, PV.bool x3.has, PV.bool x3.turned, PV.int IntKind.i64 v5.rx.kind, PV.str v5.rx.char, PV.bool v5.rx.not, PV.sl v5.rx.rows.nil (szc 2 v5.rx.rows.l) (List.map T.Row.enc v5.rx.rows.l), PV.int IntKind.i64 v5.rx.min, PV.int IntKind.i64 v5.rx.max, PV.bool v5.rx.lazy, PV.sl v5.rx.kids.nil (szc 8 v5.rx.kids.l) (List.map T.Rx.enc v5.rx.kids.l), PV.sl v5.fmts.nil (szc 5 v5.fmts.l) (List.map T.Fmt.enc v5.fmts.l), PV.bool v5.fold, PV.bool v5.all, PV.sl v7.nil (szc 1 v7.l) (List.map strE v7.l), PV.sl v9.nil (szc 18 v9.l) (List.map T.Snip.enc v9.l)]] = List.map T.Snip.enc (out ++ [(T.Snip.mk x3.kind x3.text x3.n x3.has x3.turned v5 v7 v9)]) := by simp only [List.map_append, List.map_cons, List.map_nil, u8_nat, u8_wrap, szc_nil, T.Snip.enc_eq]
    have f10 := ih15 _ _ h
    try dsimp only at f10
    try simp only [T.Snip.enc_eq, encx.down, Nat.zero_add, Nat.reduceAdd] at f10
    clear h
    clear ih14 ih15
    rotate_left
    rw [if_neg h1] at h; replace h1 := Bool.eq_false_iff.2 h1
    cases h
    clear ih14 ih15
    rotate_left
    all_goals
      refine omega_L fn28 (by rfl) ?_
      simp (disch := first | assumption | rfl | exact Sure.mk (by kernel_rfl)) only [go_sem, coreG.down, tab.down, ↓reduceIte, Nat.reduceLeDiff, Nat.reduceEqDiff, Nat.reduceLT, Nat.reduceAdd, Nat.reduceSub, Nat.reduceMul, reduceCtorEq, Nat.reducePow, sp28_0, T.Snip.enc_eq, *]
set_option maxHeartbeats 4000000 in
theorem snode_Clone_ok {l : (Sl T.Snip)} {r : ((Sl T.Snip))} (h : snode_Clone l = some r) :
    O.call 28 [AV.pv (PV.sl l.nil (szc 18 l.l) (List.map T.Snip.enc l.l))] [] = some (AV.pv (PV.sl r.nil (szc 18 r.l) (List.map T.Snip.enc r.l)), []) := snode_Clone_all.1 l r h
set_option maxHeartbeats 4000000 in
theorem snode_Clone_L0_ok {t6 : (Sl T.Snip)} {t7 : Int} {t8 : Int} {out : (List T.Snip)} {r : ((List T.Snip))} (h : snode_Clone_L0 (t6, t7, t8, out) = some r) :
    O.loop 28 0 ⟨[(3, AV.row 0 out.length 0 out.length), (6, AV.pv (PV.sl t6.nil (szc 18 t6.l) (List.map T.Snip.enc t6.l))), (7, AV.pv (PV.int IntKind.i64 t7)), (8, AV.pv (PV.int IntKind.i64 t8))], [(0, Blk.row out.isEmpty (szc 18 out) (List.map T.Snip.enc out))], 1⟩ = some (Ex.normal, ⟨[(3, AV.row 0 r.length 0 r.length)], [(0, Blk.row r.isEmpty (szc 18 r) (List.map T.Snip.enc r))], 1⟩) := snode_Clone_all.2 (t6, t7, t8, out) r h
def snode_Join_1_enc (r_ : (List UInt8)) (r_2 : (List T.Snip)) : (((List T.Snip)) ⊕ (Unit)) → AV × Heap
  | .inl y => (AV.tup [], [(0, Blk.box [AV.pv (PV.sl true 0 [])]), (1, Blk.box [AV.row 3 y.length 0 y.length]), (2, Blk.row r_.isEmpty (szc 1 r_) (List.map byteE r_)), (3, Blk.row y.isEmpty (szc 18 y) (List.map T.Snip.enc y))])
  | .inr y => (AV.tup [], [(0, Blk.box [AV.row 2 r_.length 0 r_.length]), (1, Blk.box [AV.row 3 r_2.length 0 r_2.length]), (2, Blk.row r_.isEmpty (szc 1 r_) (List.map byteE r_)), (3, Blk.row r_2.isEmpty (szc 18 r_2) (List.map T.Snip.enc r_2))])
set_option maxHeartbeats 4000000 in
theorem snode_Join_1_ok {r_ : (List UInt8)} {r_2 : (List T.Snip)} {r : (((List T.Snip)) ⊕ (Unit))} (h : snode_Join_1 r_ r_2 = some r) :
    O.call 27 [AV.ptr 0 0, AV.ptr 1 0] [(0, Blk.box [AV.row 2 r_.length 0 r_.length]), (1, Blk.box [AV.row 3 r_2.length 0 r_2.length]), (2, Blk.row r_.isEmpty (szc 1 r_) (List.map byteE r_)), (3, Blk.row r_2.isEmpty (szc 18 r_2) (List.map T.Snip.enc r_2))] = some (snode_Join_1_enc r_ r_2 r) := by
  unfold snode_Join_1 at h
  by_cases h1 : (decide ((r_.length : Int) > (0 : Int))) = true
  rw [if_pos h1] at h
  have f1 : (szc 1 r_ = 1 ∨ List.map byteE r_ = []) = True := szc_or _ _ _
  have f2 := bytesOf_map r_
  by_cases h2 : ¬ (roomOK (r_2.length + 1) 224 = true)
  rw [if_neg h2] at h; cases h
  replace h2 := Decidable.of_not_not h2; rw [if_pos h2] at h
  have f3 := h2
  have f4 := fun te β nx c0 (h1 : 18 = te.size) (h2 : roomOK (r_2.length + 1) te.bytes = true) => rowApp_G te β 18 nx T.Snip.enc r_2 c0 [] h1 h2
  have f5 : natOf (.pv (.int IntKind.i64 (r_2.length : Int))) = some r_2.length := natOf_nat _ _
  have f6 : (r_2.length < (List.map T.Snip.enc r_2 ++ [[PV.int IntKind.i64 (0 : Int), PV.str ([] : Bytes), PV.int IntKind.i64 (0 : Int), PV.bool false, PV.bool false, PV.int IntKind.i64 (0 : Int), PV.str ([] : Bytes), PV.bool false, PV.sl true 0 [], PV.int IntKind.i64 (0 : Int), PV.int IntKind.i64 (0 : Int), PV.bool false, PV.sl true 0 [], PV.sl true 0 [], PV.bool false, PV.bool false, PV.sl true 0 [], PV.sl true 0 []]]).length) = True := by simp
  have f7 : (List.map T.Snip.enc r_2 ++ [[PV.int IntKind.i64 (0 : Int), PV.str ([] : Bytes), PV.int IntKind.i64 (0 : Int), PV.bool false, PV.bool false, PV.int IntKind.i64 (0 : Int), PV.str ([] : Bytes), PV.bool false, PV.sl true 0 [], PV.int IntKind.i64 (0 : Int), PV.int IntKind.i64 (0 : Int), PV.bool false, PV.sl true 0 [], PV.sl true 0 [], PV.bool false, PV.bool false, PV.sl true 0 [], PV.sl true 0 []]])[r_2.length]? = some [PV.int IntKind.i64 (0 : Int), PV.str ([] : Bytes), PV.int IntKind.i64 (0 : Int), PV.bool false, PV.bool false, PV.int IntKind.i64 (0 : Int), PV.str ([] : Bytes), PV.bool false, PV.sl true 0 [], PV.int IntKind.i64 (0 : Int), PV.int IntKind.i64 (0 : Int), PV.bool false, PV.sl true 0 [], PV.sl true 0 [], PV.bool false, PV.bool false, PV.sl true 0 [], PV.sl true 0 []] := by simp
  have f8 : (List.map T.Snip.enc r_2 ++ [[PV.int IntKind.i64 (0 : Int), PV.str ([] : Bytes), PV.int IntKind.i64 (0 : Int), PV.bool false, PV.bool false, PV.int IntKind.i64 (0 : Int), PV.str ([] : Bytes), PV.bool false, PV.sl true 0 [], PV.int IntKind.i64 (0 : Int), PV.int IntKind.i64 (0 : Int), PV.bool false, PV.sl true 0 [], PV.sl true 0 [], PV.bool false, PV.bool false, PV.sl true 0 [], PV.sl true 0 []]]).set r_2.length [PV.int IntKind.i64 (0 : Int), PV.str r_, PV.int IntKind.i64 (0 : Int), PV.bool false, PV.bool false, PV.int IntKind.i64 (0 : Int), PV.str ([] : Bytes), PV.bool false, PV.sl true 0 [], PV.int IntKind.i64 (0 : Int), PV.int IntKind.i64 (0 : Int), PV.bool false, PV.sl true 0 [], PV.sl true 0 [], PV.bool false, PV.bool false, PV.sl true 0 [], PV.sl true 0 []] = List.map T.Snip.enc r_2 ++ [[PV.int IntKind.i64 (0 : Int), PV.str r_, PV.int IntKind.i64 (0 : Int), PV.bool false, PV.bool false, PV.int IntKind.i64 (0 : Int), PV.str ([] : Bytes), PV.bool false, PV.sl true 0 [], PV.int IntKind.i64 (0 : Int), PV.int IntKind.i64 (0 : Int), PV.bool false, PV.sl true 0 [], PV.sl true 0 [], PV.bool false, PV.bool false, PV.sl true 0 [], PV.sl true 0 []]] := by simp
  have f9 : (List.map T.Snip.enc r_2 ++ [[PV.int IntKind.i64 (0 : Int), PV.str ([] : Bytes), PV.int IntKind.i64 (0 : Int), PV.bool false, PV.bool false, PV.int IntKind.i64 (0 : Int), PV.str ([] : Bytes), PV.bool false, PV.sl true 0 [], PV.int IntKind.i64 (0 : Int), PV.int IntKind.i64 (0 : Int), PV.bool false, PV.sl true 0 [], PV.sl true 0 [], PV.bool false, PV.bool false, PV.sl true 0 [], PV.sl true 0 []]]).length = (List.map T.Snip.enc r_2 ++ [[PV.int IntKind.i64 (0 : Int), PV.str r_, PV.int IntKind.i64 (0 : Int), PV.bool false, PV.bool false, PV.int IntKind.i64 (0 : Int), PV.str ([] : Bytes), PV.bool false, PV.sl true 0 [], PV.int IntKind.i64 (0 : Int), PV.int IntKind.i64 (0 : Int), PV.bool false, PV.sl true 0 [], PV.sl true 0 [], PV.bool false, PV.bool false, PV.sl true 0 [], PV.sl true 0 []]]).length := by simp
  have f10 : List.map T.Snip.enc r_2 ++ [[PV.int IntKind.i64 (0 : Int), PV.str r_, PV.int IntKind.i64 (0 : Int), PV.bool false, PV.bool false, PV.int IntKind.i64 (0 : Int), PV.str ([] : Bytes), PV.bool false, PV.sl true 0 [], PV.int IntKind.i64 (0 : Int), PV.int IntKind.i64 (0 : Int), PV.bool false, PV.sl true 0 [], PV.sl true 0 [], PV.bool false, PV.bool false, PV.sl true 0 [], PV.sl true 0 []]] = List.map T.Snip.enc (r_2 ++ [(T.Snip.mk (0 : Int) r_ (0 : Int) false false (T.Form.mk (T.Rx.mk (0 : Int) ([] : Bytes) false (⟨true, []⟩ : (Sl T.Row)) (0 : Int) (0 : Int) false (⟨true, []⟩ : (Sl T.Rx))) (⟨true, []⟩ : (Sl T.Fmt)) false false) (⟨true, []⟩ : (Sl Bytes)) (⟨true, []⟩ : (Sl T.Snip)))]) := by simp only [List.map_append, List.map_cons, List.map_nil, u8_nat, u8_wrap, szc_nil, T.Snip.enc_eq]
  cases h
  show _ = some (snode_Join_1_enc _ _ (.inl _))
  dsimp only [snode_Join_1_enc]
  rotate_left
  rw [if_neg h1] at h; replace h1 := Bool.eq_false_iff.2 h1
  cases h
  show _ = some (snode_Join_1_enc _ _ (.inr _))
  dsimp only [snode_Join_1_enc]
  rotate_left
  all_goals
    refine omega_F rfl fn27 (by rfl) (by rfl) rfl ?_
    simp (disch := first | assumption | rfl | exact Sure.mk (by kernel_rfl)) only [go_sem, coreG.down, tab.down, ↓reduceIte, Nat.reduceLeDiff, Nat.reduceEqDiff, Nat.reduceLT, Nat.reduceAdd, Nat.reduceSub, Nat.reduceMul, reduceCtorEq, Nat.reducePow, T.Snip.enc_eq, byteE, slE, *]
set_option maxHeartbeats 4000000 in
theorem snode_Join_L0_ok {t10 : (Sl T.Snip)} {t11 : Int} {t12 : Int} {r2_ : (List T.Snip)} {r3_ : (List UInt8)} {r : ((List T.Snip) × (List UInt8))} (h : snode_Join_L0 (t10, t11, t12, r2_, r3_) = some r) :
    O.loop 13 0 ⟨[(3, AV.ptr 0 0), (4, AV.ptr 1 0), (5, AV.clo 27 [] [AV.ptr 1 0, AV.ptr 0 0]), (10, AV.pv (PV.sl t10.nil (szc 18 t10.l) (List.map T.Snip.enc t10.l))), (11, AV.pv (PV.int IntKind.i64 t11)), (12, AV.pv (PV.int IntKind.i64 t12))], [(0, Blk.box [AV.row 2 r2_.length 0 r2_.length]), (1, Blk.box [AV.row 3 r3_.length 0 r3_.length]), (2, Blk.row r2_.isEmpty (szc 18 r2_) (List.map T.Snip.enc r2_)), (3, Blk.row r3_.isEmpty (szc 1 r3_) (List.map byteE r3_))], 4⟩ = some (Ex.normal, ⟨[(3, AV.ptr 0 0), (5, AV.clo 27 [] [AV.ptr 1 0, AV.ptr 0 0])], [(0, Blk.box [AV.row 2 r.1.length 0 r.1.length]), (1, Blk.box [AV.row 3 r.2.length 0 r.2.length]), (2, Blk.row r.1.isEmpty (szc 18 r.1) (List.map T.Snip.enc r.1)), (3, Blk.row r.2.isEmpty (szc 1 r.2) (List.map byteE r.2))], 4⟩) := by
  refine snode_Join_L0.partial_correctness (fun p r => O.loop 13 0 ⟨[(3, AV.ptr 0 0), (4, AV.ptr 1 0), (5, AV.clo 27 [] [AV.ptr 1 0, AV.ptr 0 0]), (10, AV.pv (PV.sl p.1.nil (szc 18 p.1.l) (List.map T.Snip.enc p.1.l))), (11, AV.pv (PV.int IntKind.i64 p.2.1)), (12, AV.pv (PV.int IntKind.i64 p.2.2.1))], [(0, Blk.box [AV.row 2 p.2.2.2.1.length 0 p.2.2.2.1.length]), (1, Blk.box [AV.row 3 p.2.2.2.2.length 0 p.2.2.2.2.length]), (2, Blk.row p.2.2.2.1.isEmpty (szc 18 p.2.2.2.1) (List.map T.Snip.enc p.2.2.2.1)), (3, Blk.row p.2.2.2.2.isEmpty (szc 1 p.2.2.2.2) (List.map byteE p.2.2.2.2))], 4⟩ = some (Ex.normal, ⟨[(3, AV.ptr 0 0), (5, AV.clo 27 [] [AV.ptr 1 0, AV.ptr 0 0])], [(0, Blk.box [AV.row 2 r.1.length 0 r.1.length]), (1, Blk.box [AV.row 3 r.2.length 0 r.2.length]), (2, Blk.row r.1.isEmpty (szc 18 r.1) (List.map T.Snip.enc r.1)), (3, Blk.row r.2.isEmpty (szc 1 r.2) (List.map byteE r.2))], 4⟩)) ?_ (t10, t11, t12, r2_, r3_) r h
  clear h r t10 t11 t12 r2_ r3_
  intro snode_Join_L0 ih22
  rintro ⟨t10, t11, t12, r2_, r3_⟩ r h
  dsimp only at h ⊢
  by_cases h1 : (decide (t12 < t11)) = true
  rw [if_pos h1] at h
  obtain ⟨x3, h2, h⟩ := Option.bind_eq_some_iff.1 h
  have f1 := geti_nat h2 IntKind.i64
  have f2 := geti_map T.Snip.enc h2
  try simp only [T.Snip.enc_eq, encx.down, Nat.zero_add, Nat.reduceAdd] at f2
  have f3 := geti_szcT h2 18
  by_cases h4 : (x3.kind == (0 : Int)) = true
  rw [if_pos h4] at h
  by_cases h5 : (r3_.isEmpty && x3.text.isEmpty) = true
  rw [if_pos h5] at h
  have f4 := fun te β k nx => rowApp_GA te β k nx byteE byteE r3_ x3.text h5
  have f5 := ih22 _ _ h
  try dsimp only at f5
  try simp only [T.Snip.enc_eq, byteE, slE, encx.down, Nat.zero_add, Nat.reduceAdd] at f5
  clear h
  clear ih22
  rotate_left
  rw [if_neg h5] at h; replace h5 := Bool.eq_false_iff.2 h5
  by_cases h6 : ¬ (roomOK (r3_.length + x3.text.length) 1 = true)
  rw [if_neg h6] at h; cases h
  replace h6 := Decidable.of_not_not h6; rw [if_pos h6] at h
  have f6 := h6
  have f7 := fun te β k nx => rowApp_GB te β k nx byteE byteE r3_ x3.text h5
  have f8 : (r3_ ++ x3.text).isEmpty = false := app_ne h5
  have f9 : szc 1 (r3_ ++ x3.text) = 1 := app_szc h5 _
  have f10 : List.map byteE r3_ ++ List.map byteE x3.text = List.map byteE (r3_ ++ x3.text) := map_app _ _ _
  have f11 := ih22 _ _ h
  try dsimp only at f11
  try simp only [T.Snip.enc_eq, byteE, slE, encx.down, Nat.zero_add, Nat.reduceAdd, f8, f9] at f11
  clear h
  clear ih22
  rotate_left
  rw [if_neg h4] at h; replace h4 := Bool.eq_false_iff.2 h4
  obtain ⟨v8, h7, h⟩ := Option.bind_eq_some_iff.1 h
  have f12 := snode_Join_1_ok h7
  try simp only [T.Snip.enc_eq, byteE, slE, encx.down, Nat.zero_add, Nat.reduceAdd] at f12
  rcases v8 with y9 | y11
  dsimp only at h
  simp only [snode_Join_1_enc, T.Snip.enc_eq, byteE, slE, encx.down, Nat.zero_add, Nat.reduceAdd] at f12
  by_cases h10 : ¬ (roomOK (y9.length + 1) 224 = true)
  rw [if_neg h10] at h; cases h
  replace h10 := Decidable.of_not_not h10; rw [if_pos h10] at h
  have f13 := h10
  have f14 := fun te β nx c0 (h1 : 18 = te.size) (h2 : roomOK (y9.length + 1) te.bytes = true) => rowApp_G te β 18 nx T.Snip.enc y9 c0 [] h1 h2
  have f15 : natOf (.pv (.int IntKind.i64 (y9.length : Int))) = some y9.length := natOf_nat _ _
  have f16 : (y9.length < (List.map T.Snip.enc y9 ++ [[PV.int IntKind.i64 (0 : Int), PV.str ([] : Bytes), PV.int IntKind.i64 (0 : Int), PV.bool false, PV.bool false, PV.int IntKind.i64 (0 : Int), PV.str ([] : Bytes), PV.bool false, PV.sl true 0 [], PV.int IntKind.i64 (0 : Int), PV.int IntKind.i64 (0 : Int), PV.bool false, PV.sl true 0 [], PV.sl true 0 [], PV.bool false, PV.bool false, PV.sl true 0 [], PV.sl true 0 []]]).length) = True := by simp
  have f17 : (List.map T.Snip.enc y9 ++ [[PV.int IntKind.i64 (0 : Int), PV.str ([] : Bytes), PV.int IntKind.i64 (0 : Int), PV.bool false, PV.bool false, PV.int IntKind.i64 (0 : Int), PV.str ([] : Bytes), PV.bool false, PV.sl true 0 [], PV.int IntKind.i64 (0 : Int), PV.int IntKind.i64 (0 : Int), PV.bool false, PV.sl true 0 [], PV.sl true 0 [], PV.bool false, PV.bool false, PV.sl true 0 [], PV.sl true 0 []]])[y9.length]? = some [PV.int IntKind.i64 (0 : Int), PV.str ([] : Bytes), PV.int IntKind.i64 (0 : Int), PV.bool false, PV.bool false, PV.int IntKind.i64 (0 : Int), PV.str ([] : Bytes), PV.bool false, PV.sl true 0 [], PV.int IntKind.i64 (0 : Int), PV.int IntKind.i64 (0 : Int), PV.bool false, PV.sl true 0 [], PV.sl true 0 [], PV.bool false, PV.bool false, PV.sl true 0 [], PV.sl true 0 []] := by simp
  have f18 : (List.map T.Snip.enc y9 ++ [[PV.int IntKind.i64 (0 : Int), PV.str ([] : Bytes), PV.int IntKind.i64 (0 : Int), PV.bool false, PV.bool false, PV.int IntKind.i64 (0 : Int), PV.str ([] : Bytes), PV.bool false, PV.sl true 0 [], PV.int IntKind.i64 (0 : Int), PV.int IntKind.i64 (0 : Int), PV.bool false, PV.sl true 0 [], PV.sl true 0 [], PV.bool false, PV.bool false, PV.sl true 0 [], PV.sl true 0 []]]).set y9.length [PV.int IntKind.i64 x3.kind, PV.str x3.text, PV.int IntKind.i64 x3.n, PV.bool x3.has, PV.bool x3.turned, PV.int IntKind.i64 x3.form.rx.kind, PV.str x3.form.rx.char, PV.bool x3.form.rx.not, PV.sl x3.form.rx.rows.nil (szc 2 x3.form.rx.rows.l) (List.map T.Row.enc x3.form.rx.rows.l), PV.int IntKind.i64 x3.form.rx.min, PV.int IntKind.i64 x3.form.rx.max, PV.bool x3.form.rx.lazy, PV.sl x3.form.rx.kids.nil (szc 8 x3.form.rx.kids.l) (List.map T.Rx.enc x3.form.rx.kids.l), PV.sl x3.form.fmts.nil (szc 5 x3.form.fmts.l) (List.map T.Fmt.enc x3.form.fmts.l), PV.bool x3.form.fold, PV.bool x3.form.all, PV.sl x3.opts.nil (szc 1 x3.opts.l) (List.map strE x3.opts.l), PV.sl x3.kids.nil (szc 18 x3.kids.l) (List.map T.Snip.enc x3.kids.l)] = List.map T.Snip.enc y9 ++ [[PV.int IntKind.i64 x3.kind, PV.str x3.text, PV.int IntKind.i64 x3.n, PV.bool x3.has, PV.bool x3.turned, PV.int IntKind.i64 x3.form.rx.kind, PV.str x3.form.rx.char, PV.bool x3.form.rx.not, PV.sl x3.form.rx.rows.nil (szc 2 x3.form.rx.rows.l) (List.map T.Row.enc x3.form.rx.rows.l), PV.int IntKind.i64 x3.form.rx.min, PV.int IntKind.i64 x3.form.rx.max, PV.bool x3.form.rx.lazy, PV.sl x3.form.rx.kids.nil (szc 8 x3.form.rx.kids.l) (List.map T.Rx.enc x3.form.rx.kids.l), PV.sl x3.form.fmts.nil (szc 5 x3.form.fmts.l) (List.map T.Fmt.enc x3.form.fmts.l), PV.bool x3.form.fold, PV.bool x3.form.all, PV.sl x3.opts.nil (szc 1 x3.opts.l) (List.map strE x3.opts.l), PV.sl x3.kids.nil (szc 18 x3.kids.l) (List.map T.Snip.enc x3.kids.l)]] := by simp
  have f19 : (List.map T.Snip.enc y9 ++ [[PV.int IntKind.i64 (0 : Int), PV.str ([] : Bytes), PV.int IntKind.i64 (0 : Int), PV.bool false, PV.bool false, PV.int IntKind.i64 (0 : Int), PV.str ([] : Bytes), PV.bool false, PV.sl true 0 [], PV.int IntKind.i64 (0 : Int), PV.int IntKind.i64 (0 : Int), PV.bool false, PV.sl true 0 [], PV.sl true 0 [], PV.bool false, PV.bool false, PV.sl true 0 [], PV.sl true 0 []]]).length = (List.map T.Snip.enc y9 ++ [[PV.int IntKind.i64 x3.kind, PV.str x3.text, PV.int IntKind.i64 x3.n, PV.bool x3.has, PV.bool x3.turned, PV.int IntKind.i64 x3.form.rx.kind, PV.str x3.form.rx.char, PV.bool x3.form.rx.not, PV.sl x3.form.rx.rows.nil (szc 2 x3.form.rx.rows.l) (List.map T.Row.enc x3.form.rx.rows.l), PV.int IntKind.i64 x3.form.rx.min, PV.int IntKind.i64 x3.form.rx.max, PV.bool x3.form.rx.lazy, PV.sl x3.form.rx.kids.nil (szc 8 x3.form.rx.kids.l) (List.map T.Rx.enc x3.form.rx.kids.l), PV.sl x3.form.fmts.nil (szc 5 x3.form.fmts.l) (List.map T.Fmt.enc x3.form.fmts.l), PV.bool x3.form.fold, PV.bool x3.form.all, PV.sl x3.opts.nil (szc 1 x3.opts.l) (List.map strE x3.opts.l), PV.sl x3.kids.nil (szc 18 x3.kids.l) (List.map T.Snip.enc x3.kids.l)]]).length := by simp
  have f20 : List.map T.Snip.enc y9 ++ [[PV.int IntKind.i64 x3.kind, PV.str x3.text, PV.int IntKind.i64 x3.n, PV.bool x3.has, PV.bool x3.turned, PV.int IntKind.i64 x3.form.rx.kind, PV.str x3.form.rx.char, PV.bool x3.form.rx.not, PV.sl x3.form.rx.rows.nil (szc 2 x3.form.rx.rows.l) (List.map T.Row.enc x3.form.rx.rows.l), PV.int IntKind.i64 x3.form.rx.min, PV.int IntKind.i64 x3.form.rx.max, PV.bool x3.form.rx.lazy, PV.sl x3.form.rx.kids.nil (szc 8 x3.form.rx.kids.l) (List.map T.Rx.enc x3.form.rx.kids.l), PV.sl x3.form.fmts.nil (szc 5 x3.form.fmts.l) (List.map T.Fmt.enc x3.form.fmts.l), PV.bool x3.form.fold, PV.bool x3.form.all, PV.sl x3.opts.nil (szc 1 x3.opts.l) (List.map strE x3.opts.l), PV.sl x3.kids.nil (szc 18 x3.kids.l) (List.map T.Snip.enc x3.kids.l)]] = List.map T.Snip.enc (y9 ++ [x3]) := by simp only [List.map_append, List.map_cons, List.map_nil, u8_nat, u8_wrap, szc_nil, T.Snip.enc_eq]
  have f21 := ih22 _ _ h
  try dsimp only at f21
  try simp only [T.Snip.enc_eq, byteE, slE, encx.down, Nat.zero_add, Nat.reduceAdd] at f21
  clear h
  clear ih22
  rotate_left
  dsimp only at h
  simp only [snode_Join_1_enc, T.Snip.enc_eq, byteE, slE, encx.down, Nat.zero_add, Nat.reduceAdd] at f12
  by_cases h12 : ¬ (roomOK (r2_.length + 1) 224 = true)
  rw [if_neg h12] at h; cases h
  replace h12 := Decidable.of_not_not h12; rw [if_pos h12] at h
  have f22 := h12
  have f23 := fun te β nx c0 (h1 : 18 = te.size) (h2 : roomOK (r2_.length + 1) te.bytes = true) => rowApp_G te β 18 nx T.Snip.enc r2_ c0 [] h1 h2
  have f24 : natOf (.pv (.int IntKind.i64 (r2_.length : Int))) = some r2_.length := natOf_nat _ _
  have f25 : (r2_.length < (List.map T.Snip.enc r2_ ++ [[PV.int IntKind.i64 (0 : Int), PV.str ([] : Bytes), PV.int IntKind.i64 (0 : Int), PV.bool false, PV.bool false, PV.int IntKind.i64 (0 : Int), PV.str ([] : Bytes), PV.bool false, PV.sl true 0 [], PV.int IntKind.i64 (0 : Int), PV.int IntKind.i64 (0 : Int), PV.bool false, PV.sl true 0 [], PV.sl true 0 [], PV.bool false, PV.bool false, PV.sl true 0 [], PV.sl true 0 []]]).length) = True := by simp
  have f26 : (List.map T.Snip.enc r2_ ++ [[PV.int IntKind.i64 (0 : Int), PV.str ([] : Bytes), PV.int IntKind.i64 (0 : Int), PV.bool false, PV.bool false, PV.int IntKind.i64 (0 : Int), PV.str ([] : Bytes), PV.bool false, PV.sl true 0 [], PV.int IntKind.i64 (0 : Int), PV.int IntKind.i64 (0 : Int), PV.bool false, PV.sl true 0 [], PV.sl true 0 [], PV.bool false, PV.bool false, PV.sl true 0 [], PV.sl true 0 []]])[r2_.length]? = some [PV.int IntKind.i64 (0 : Int), PV.str ([] : Bytes), PV.int IntKind.i64 (0 : Int), PV.bool false, PV.bool false, PV.int IntKind.i64 (0 : Int), PV.str ([] : Bytes), PV.bool false, PV.sl true 0 [], PV.int IntKind.i64 (0 : Int), PV.int IntKind.i64 (0 : Int), PV.bool false, PV.sl true 0 [], PV.sl true 0 [], PV.bool false, PV.bool false, PV.sl true 0 [], PV.sl true 0 []] := by simp
  have f27 : (List.map T.Snip.enc r2_ ++ [[PV.int IntKind.i64 (0 : Int), PV.str ([] : Bytes), PV.int IntKind.i64 (0 : Int), PV.bool false, PV.bool false, PV.int IntKind.i64 (0 : Int), PV.str ([] : Bytes), PV.bool false, PV.sl true 0 [], PV.int IntKind.i64 (0 : Int), PV.int IntKind.i64 (0 : Int), PV.bool false, PV.sl true 0 [], PV.sl true 0 [], PV.bool false, PV.bool false, PV.sl true 0 [], PV.sl true 0 []]]).set r2_.length [PV.int IntKind.i64 x3.kind, PV.str x3.text, PV.int IntKind.i64 x3.n, PV.bool x3.has, PV.bool x3.turned, PV.int IntKind.i64 x3.form.rx.kind, PV.str x3.form.rx.char, PV.bool x3.form.rx.not, PV.sl x3.form.rx.rows.nil (szc 2 x3.form.rx.rows.l) (List.map T.Row.enc x3.form.rx.rows.l), PV.int IntKind.i64 x3.form.rx.min, PV.int IntKind.i64 x3.form.rx.max, PV.bool x3.form.rx.lazy, PV.sl x3.form.rx.kids.nil (szc 8 x3.form.rx.kids.l) (List.map T.Rx.enc x3.form.rx.kids.l), PV.sl x3.form.fmts.nil (szc 5 x3.form.fmts.l) (List.map T.Fmt.enc x3.form.fmts.l), PV.bool x3.form.fold, PV.bool x3.form.all, PV.sl x3.opts.nil (szc 1 x3.opts.l) (List.map strE x3.opts.l), PV.sl x3.kids.nil (szc 18 x3.kids.l) (List.map T.Snip.enc x3.kids.l)] = List.map T.Snip.enc r2_ ++ [[PV.int IntKind.i64 x3.kind, PV.str x3.text, PV.int IntKind.i64 x3.n, PV.bool x3.has, PV.bool x3.turned, PV.int IntKind.i64 x3.form.rx.kind, PV.str x3.form.rx.char, PV.bool x3.form.rx.not, PV.sl x3.form.rx.rows.nil (szc 2 x3.form.rx.rows.l) (List.map T.Row.enc x3.form.rx.rows.l), PV.int IntKind.i64 x3.form.rx.min, PV.int IntKind.i64 x3.form.rx.max, PV.bool x3.form.rx.lazy, PV.sl x3.form.rx.kids.nil (szc 8 x3.form.rx.kids.l) (List.map T.Rx.enc x3.form.rx.kids.l), PV.sl x3.form.fmts.nil (szc 5 x3.form.fmts.l) (List.map T.Fmt.enc x3.form.fmts.l), PV.bool x3.form.fold, PV.bool x3.form.all, PV.sl x3.opts.nil (szc 1 x3.opts.l) (List.map strE x3.opts.l), PV.sl x3.kids.nil (szc 18 x3.kids.l) (List.map T.Snip.enc x3.kids.l)]] := by simp
  have f28 : (List.map T.Snip.enc r2_ ++ [[PV.int IntKind.i64 (0 : Int), PV.str ([] : Bytes), PV.int IntKind.i64 (0 : Int), PV.bool false, PV.bool false, PV.int IntKind.i64 (0 : Int), PV.str ([] : Bytes), PV.bool false, PV.sl true 0 [], PV.int IntKind.i64 (0 : Int), PV.int IntKind.i64 (0 : Int), PV.bool false, PV.sl true 0 [], PV.sl true 0 [], PV.bool false, PV.bool false, PV.sl true 0 [], PV.sl true 0 []]]).length = (List.map T.Snip.enc r2_ ++ [[PV.int IntKind.i64 x3.kind, PV.str x3.text, PV.int IntKind.i64 x3.n, PV.bool x3.has, PV.bool x3.turned, PV.int IntKind.i64 x3.form.rx.kind, PV.str x3.form.rx.char, PV.bool x3.form.rx.not, PV.sl x3.form.rx.rows.nil (szc 2 x3.form.rx.rows.l) (List.map T.Row.enc x3.form.rx.rows.l), PV.int IntKind.i64 x3.form.rx.min, PV.int IntKind.i64 x3.form.rx.max, PV.bool x3.form.rx.lazy, PV.sl x3.form.rx.kids.nil (szc 8 x3.form.rx.kids.l) (List.map T.Rx.enc x3.form.rx.kids.l), PV.sl x3.form.fmts.nil (szc 5 x3.form.fmts.l) (List.map T.Fmt.enc x3.form.fmts.l), PV.bool x3.form.fold, PV.bool x3.form.all, PV.sl x3.opts.nil (szc 1 x3.opts.l) (List.map strE x3.opts.l), PV.sl x3.kids.nil (szc 18 x3.kids.l) (List.map T.Snip.enc x3.kids.l)]]).length := by simp
  have f29 : List.map T.Snip.enc r2_ ++ [[PV.int IntKind.i64 x3.kind, PV.str x3.text, PV.int IntKind.i64 x3.n, PV.bool x3.has, PV.bool x3.turned, PV.int IntKind.i64 x3.form.rx.kind, PV.str x3.form.rx.char, PV.bool x3.form.rx.not, PV.sl x3.form.rx.rows.nil (szc 2 x3.form.rx.rows.l) (List.map T.Row.enc x3.form.rx.rows.l), PV.int IntKind.i64 x3.form.rx.min, PV.int IntKind.i64 x3.form.rx.max, PV.bool x3.form.rx.lazy, PV.sl x3.form.rx.kids.nil (szc 8 x3.form.rx.kids.l) (List.map T.Rx.enc x3.form.rx.kids.l), PV.sl x3.form.fmts.nil (szc 5 x3.form.fmts.l) (List.map T.Fmt.enc x3.form.fmts.l), PV.bool x3.form.fold, PV.bool x3.form.all, PV.sl x3.opts.nil (szc 1 x3.opts.l) (List.map strE x3.opts.l), PV.sl x3.kids.nil (szc 18 x3.kids.l) (List.map T.Snip.enc x3.kids.l)]] = List.map T.Snip.enc (r2_ ++ [x3]) := by simp only [List.map_append, List.map_cons, List.map_nil, u8_nat, u8_wrap, szc_nil, T.Snip.enc_eq]
  have f30 := ih22 _ _ h
  try dsimp only at f30
  try simp only [T.Snip.enc_eq, byteE, slE, encx.down, Nat.zero_add, Nat.reduceAdd] at f30
  clear h
  clear ih22
  rotate_left
  rw [if_neg h1] at h; replace h1 := Bool.eq_false_iff.2 h1
  cases h
  clear ih22
  rotate_left
  all_goals
    refine omega_L fn13 (by rfl) ?_
    simp (disch := first | assumption | rfl | exact Sure.mk (by kernel_rfl)) only [go_sem, coreG.down, tab.down, ↓reduceIte, Nat.reduceLeDiff, Nat.reduceEqDiff, Nat.reduceLT, Nat.reduceAdd, Nat.reduceSub, Nat.reduceMul, reduceCtorEq, Nat.reducePow, sp13_0, T.Snip.enc_eq, byteE, slE, *]
set_option maxHeartbeats 4000000 in
theorem snode_Join_ok {l : (Sl T.Snip)} {r : ((Sl T.Snip))} (h : snode_Join l = some r) :
    O.call 13 [AV.pv (PV.sl l.nil (szc 18 l.l) (List.map T.Snip.enc l.l))] [] = some (AV.pv (PV.sl r.nil (szc 18 r.l) (List.map T.Snip.enc r.l)), []) := by
  unfold snode_Join at h
  obtain ⟨v2, h1, h⟩ := Option.bind_eq_some_iff.1 h
  have f1 := snode_Clone_ok h1
  try simp only [T.Snip.enc_eq, encx.down, Nat.zero_add, Nat.reduceAdd] at f1
  obtain ⟨v4, h3, h⟩ := Option.bind_eq_some_iff.1 h
  have f2 := snode_Join_L0_ok h3
  try simp only [T.Snip.enc_eq, byteE, slE, encx.down, Nat.zero_add, Nat.reduceAdd] at f2
  obtain ⟨v6, h5, h⟩ := Option.bind_eq_some_iff.1 h
  have f3 := snode_Join_1_ok h5
  try simp only [T.Snip.enc_eq, byteE, slE, encx.down, Nat.zero_add, Nat.reduceAdd] at f3
  rcases v6 with y7 | y8
  dsimp only at h
  simp only [snode_Join_1_enc, T.Snip.enc_eq, byteE, slE, encx.down, Nat.zero_add, Nat.reduceAdd] at f3
  cases h
  rotate_left
  dsimp only at h
  simp only [snode_Join_1_enc, T.Snip.enc_eq, byteE, slE, encx.down, Nat.zero_add, Nat.reduceAdd] at f3
  cases h
  rotate_left
  all_goals
    refine omega_F rfl fn13 (by rfl) (by rfl) rfl ?_
    simp (disch := first | assumption | rfl | exact Sure.mk (by kernel_rfl)) only [go_sem, coreG.down, tab.down, ↓reduceIte, Nat.reduceLeDiff, Nat.reduceEqDiff, Nat.reduceLT, Nat.reduceAdd, Nat.reduceSub, Nat.reduceMul, reduceCtorEq, Nat.reducePow, sp13_0, T.Snip.enc_eq, *]
def law20_NodeJoin_L2_enc (in_ : (Sl T.Snip)) (all_ : Bytes) (out : (Sl T.Snip)) : ((Bool × Int × Bytes) ⊕ (Int × Bytes)) → Ex × St
  | .inl y => (Ex.ret, ⟨[(2, AV.pv (PV.bool y.1)), (3, AV.pv (PV.sl in_.nil (szc 18 in_.l) (List.map T.Snip.enc in_.l))), (4, AV.pv (PV.str all_)), (5, AV.pv (PV.int IntKind.i64 y.2.1)), (7, AV.pv (PV.sl out.nil (szc 18 out.l) (List.map T.Snip.enc out.l))), (8, AV.pv (PV.str y.2.2))], [(0, Blk.dead)], 1⟩)
  | .inr y => (Ex.normal, ⟨[(2, AV.undef), (3, AV.pv (PV.sl in_.nil (szc 18 in_.l) (List.map T.Snip.enc in_.l))), (4, AV.pv (PV.str all_)), (5, AV.pv (PV.int IntKind.i64 y.1)), (7, AV.pv (PV.sl out.nil (szc 18 out.l) (List.map T.Snip.enc out.l))), (8, AV.pv (PV.str y.2))], [(0, Blk.dead)], 1⟩)
set_option maxHeartbeats 4000000 in
theorem law20_NodeJoin_L2_ok {in_ : (Sl T.Snip)} {all_ : Bytes} {others : Int} {out : (Sl T.Snip)} {got : Bytes} {i : Int} {r : ((Bool × Int × Bytes) ⊕ (Int × Bytes))} (h : law20_NodeJoin_L2 (in_, all_, others, out, got, i) = some r) :
    O.loop 4 2 ⟨[(3, AV.pv (PV.sl in_.nil (szc 18 in_.l) (List.map T.Snip.enc in_.l))), (4, AV.pv (PV.str all_)), (5, AV.pv (PV.int IntKind.i64 others)), (7, AV.pv (PV.sl out.nil (szc 18 out.l) (List.map T.Snip.enc out.l))), (8, AV.pv (PV.str got)), (9, AV.pv (PV.int IntKind.i64 i))], [(0, Blk.dead)], 1⟩ = some (law20_NodeJoin_L2_enc in_ all_ out r) := by
  refine law20_NodeJoin_L2.partial_correctness (fun p r => O.loop 4 2 ⟨[(3, AV.pv (PV.sl p.1.nil (szc 18 p.1.l) (List.map T.Snip.enc p.1.l))), (4, AV.pv (PV.str p.2.1)), (5, AV.pv (PV.int IntKind.i64 p.2.2.1)), (7, AV.pv (PV.sl p.2.2.2.1.nil (szc 18 p.2.2.2.1.l) (List.map T.Snip.enc p.2.2.2.1.l))), (8, AV.pv (PV.str p.2.2.2.2.1)), (9, AV.pv (PV.int IntKind.i64 p.2.2.2.2.2))], [(0, Blk.dead)], 1⟩ = some (law20_NodeJoin_L2_enc p.1 p.2.1 p.2.2.2.1 r)) ?_ (in_, all_, others, out, got, i) r h
  clear h r in_ all_ others out got i
  intro law20_NodeJoin_L2 ih24
  rintro ⟨in_, all_, others, out, got, i⟩ r h
  dsimp only at h ⊢
  by_cases h1 : (decide (i < (out.l.length : Int))) = true
  rw [if_pos h1] at h
  obtain ⟨x3, h2, h⟩ := Option.bind_eq_some_iff.1 h
  have f1 := geti_nat h2 IntKind.i64
  have f2 := geti_map T.Snip.enc h2
  try simp only [T.Snip.enc_eq, encx.down, Nat.zero_add, Nat.reduceAdd] at f2
  have f3 := geti_szcT h2 18
  by_cases h4 : (x3.kind != (0 : Int)) = true
  rw [if_pos h4] at h
  have f4 := ih24 _ _ h
  try dsimp only at f4
  try simp only [T.Snip.enc_eq, encx.down, Nat.zero_add, Nat.reduceAdd] at f4
  clear h
  clear ih24
  rotate_left
  rw [if_neg h4] at h; replace h4 := Bool.eq_false_iff.2 h4
  by_cases h5 : ¬ (got.length + x3.text.length ≤ 2 ^ 62)
  rw [if_neg h5] at h; cases h
  replace h5 := Decidable.of_not_not h5; rw [if_pos h5] at h
  have f5 := eq_true h5
  by_cases h6 : (x3.text == ([] : Bytes)) = true
  rw [if_pos h6] at h
  cases h
  show _ = some (law20_NodeJoin_L2_enc _ _ _ (.inl _))
  dsimp only [law20_NodeJoin_L2_enc]
  clear ih24
  rotate_left
  rw [if_neg h6] at h; replace h6 := Bool.eq_false_iff.2 h6
  by_cases h7 : (decide (i > (0 : Int))) = true
  rw [if_pos h7] at h
  obtain ⟨x9, h8, h⟩ := Option.bind_eq_some_iff.1 h
  have f6 := geti_nat h8 IntKind.i64
  have f7 := geti_map T.Snip.enc h8
  try simp only [T.Snip.enc_eq, encx.down, Nat.zero_add, Nat.reduceAdd] at f7
  have f8 := geti_szcT h8 18
  by_cases h10 : (x9.kind == (0 : Int)) = true
  rw [if_pos h10] at h
  cases h
  show _ = some (law20_NodeJoin_L2_enc _ _ _ (.inl _))
  dsimp only [law20_NodeJoin_L2_enc]
  clear ih24
  rotate_left
  rw [if_neg h10] at h; replace h10 := Bool.eq_false_iff.2 h10
  have f9 := ih24 _ _ h
  try dsimp only at f9
  try simp only [T.Snip.enc_eq, encx.down, Nat.zero_add, Nat.reduceAdd] at f9
  clear h
  clear ih24
  rotate_left
  rw [if_neg h7] at h; replace h7 := Bool.eq_false_iff.2 h7
  have f10 := ih24 _ _ h
  try dsimp only at f10
  try simp only [T.Snip.enc_eq, encx.down, Nat.zero_add, Nat.reduceAdd] at f10
  clear h
  clear ih24
  rotate_left
  rw [if_neg h1] at h; replace h1 := Bool.eq_false_iff.2 h1
  cases h
  show _ = some (law20_NodeJoin_L2_enc _ _ _ (.inr _))
  dsimp only [law20_NodeJoin_L2_enc]
  clear ih24
  rotate_left
  all_goals
    refine omega_L fn4 (by rfl) ?_
    simp (disch := first | assumption | rfl | exact Sure.mk (by kernel_rfl)) only [go_sem, coreG.down, tab.down, ↓reduceIte, Nat.reduceLeDiff, Nat.reduceEqDiff, Nat.reduceLT, Nat.reduceAdd, Nat.reduceSub, Nat.reduceMul, reduceCtorEq, Nat.reducePow, sp4_0, sp4_2, T.Snip.enc_eq, *]
set_option maxHeartbeats 4000000 in
theorem ref20_Join_L0_ok {l : (Sl T.Snip)} {i : Int} {out : (List T.Snip)} {r : ((List T.Snip))} (h : ref20_Join_L0 (l, i, out) = some r) :
    O.loop 14 0 ⟨[(0, AV.pv (PV.sl l.nil (szc 18 l.l) (List.map T.Snip.enc l.l))), (3, AV.row 0 out.length 0 out.length), (4, AV.pv (PV.int IntKind.i64 i))], [(0, Blk.row out.isEmpty (szc 18 out) (List.map T.Snip.enc out))], 1⟩ = some (Ex.normal, ⟨[(3, AV.row 0 r.length 0 r.length)], [(0, Blk.row r.isEmpty (szc 18 r) (List.map T.Snip.enc r))], 1⟩) := by
  refine ref20_Join_L0.partial_correctness (fun p r => O.loop 14 0 ⟨[(0, AV.pv (PV.sl p.1.nil (szc 18 p.1.l) (List.map T.Snip.enc p.1.l))), (3, AV.row 0 p.2.2.length 0 p.2.2.length), (4, AV.pv (PV.int IntKind.i64 p.2.1))], [(0, Blk.row p.2.2.isEmpty (szc 18 p.2.2) (List.map T.Snip.enc p.2.2))], 1⟩ = some (Ex.normal, ⟨[(3, AV.row 0 r.length 0 r.length)], [(0, Blk.row r.isEmpty (szc 18 r) (List.map T.Snip.enc r))], 1⟩)) ?_ (l, i, out) r h
  clear h r l i out
  intro ref20_Join_L0 ih26
  rintro ⟨l, i, out⟩ r h
  dsimp only at h ⊢
  by_cases h1 : (decide (i < (l.l.length : Int))) = true
  rw [if_pos h1] at h
  obtain ⟨x3, h2, h⟩ := Option.bind_eq_some_iff.1 h
  have f1 := geti_nat h2 IntKind.i64
  have f2 := geti_map T.Snip.enc h2
  try simp only [T.Snip.enc_eq, encx.down, Nat.zero_add, Nat.reduceAdd] at f2
  have f3 := geti_szcT h2 18
  by_cases h4 : (x3.kind == (0 : Int)) = true
  rw [if_pos h4] at h
  by_cases h5 : (x3.text == ([] : Bytes)) = true
  rw [if_pos h5] at h
  have f4 := ih26 _ _ h
  try dsimp only at f4
  try simp only [T.Snip.enc_eq, encx.down, Nat.zero_add, Nat.reduceAdd] at f4
  clear h
  clear ih26
  rotate_left
  rw [if_neg h5] at h; replace h5 := Bool.eq_false_iff.2 h5
  by_cases h6 : (decide ((out.length : Int) > (0 : Int))) = true
  rw [if_pos h6] at h
  obtain ⟨x8, h7, h⟩ := Option.bind_eq_some_iff.1 h
  have f5 := geti_nat h7 IntKind.i64
  have f6 := geti_map T.Snip.enc h7
  try simp only [T.Snip.enc_eq, encx.down, Nat.zero_add, Nat.reduceAdd] at f6
  have f7 := geti_lt h7
  have f8 := geti_ne h7
  have f9 := geti_szc h7 18
  by_cases h9 : (x8.kind == (0 : Int)) = true
  rw [if_pos h9] at h
  by_cases h10 : ¬ (x8.text.length + x3.text.length ≤ 2 ^ 62)
  rw [if_neg h10] at h; cases h
  replace h10 := Decidable.of_not_not h10; rw [if_pos h10] at h
  have f10 := eq_true h10
  have f11 := map_set T.Snip.enc out ((IntKind.i64.wrap ((out.length : Int) - (1 : Int))).toNat) (T.Snip.mk x8.kind (x8.text ++ x3.text) x8.n x8.has x8.turned x8.form x8.opts x8.kids)
  try simp only [T.Snip.enc_eq, encx.down, Nat.zero_add, Nat.reduceAdd] at f11
  have f12 := ih26 _ _ h
  try dsimp only at f12
  try simp only [T.Snip.enc_eq, encx.down, Nat.zero_add, Nat.reduceAdd, f8, f9] at f12
  clear h
  clear ih26
  rotate_left
  rw [if_neg h9] at h; replace h9 := Bool.eq_false_iff.2 h9
  by_cases h11 : ¬ (roomOK (out.length + 1) 224 = true)
  rw [if_neg h11] at h; cases h
  replace h11 := Decidable.of_not_not h11; rw [if_pos h11] at h
  have f13 := h11
  have f15 : List.map T.Snip.enc out ++ [[PV.int IntKind.i64 x3.kind, PV.str x3.text, PV.int IntKind.i64 x3.n, PV.bool x3.has, PV.bool x3.turned, PV.int IntKind.i64 x3.form.rx.kind, PV.str x3.form.rx.char, PV.bool x3.form.rx.not, PV.sl x3.form.rx.rows.nil (szc 2 x3.form.rx.rows.l) (List.map T.Row.enc x3.form.rx.rows.l), PV.int IntKind.i64 x3.form.rx.min, PV.int IntKind.i64 x3.form.rx.max, PV.bool x3.form.rx.lazy, PV.sl x3.form.rx.kids.nil (szc 8 x3.form.rx.kids.l) (List.map T.Rx.enc x3.form.rx.kids.l), PV.sl x3.form.fmts.nil (szc 5 x3.form.fmts.l) (List.map T.Fmt.enc x3.form.fmts.l), PV.bool x3.form.fold, PV.bool x3.form.all, PV.sl x3.opts.nil (szc 1 x3.opts.l) (List.map strE x3.opts.l), PV.sl x3.kids.nil (szc 18 x3.kids.l) (List.map T.Snip.enc x3.kids.l)]] = List.map T.Snip.enc (out ++ [x3]) := by simp only [List.map_append, List.map_cons, List.map_nil, u8_nat, u8_wrap, szc_nil, T.Snip.enc_eq]
  have f16 := ih26 _ _ h
  try dsimp only at f16
  try simp only [T.Snip.enc_eq, encx.down, Nat.zero_add, Nat.reduceAdd, f8, f9] at f16
  clear h
  clear ih26
  rotate_left
  rw [if_neg h6] at h; replace h6 := Bool.eq_false_iff.2 h6
  by_cases h12 : ¬ (roomOK (out.length + 1) 224 = true)
  rw [if_neg h12] at h; cases h
  replace h12 := Decidable.of_not_not h12; rw [if_pos h12] at h
  have f17 := h12
  have f18 := fun te β nx c0 (h1 : 18 = te.size) (h2 : roomOK (out.length + 1) te.bytes = true) => rowApp_G te β 18 nx T.Snip.enc out c0 [] h1 h2
  have f19 : List.map T.Snip.enc out ++ [[PV.int IntKind.i64 x3.kind, PV.str x3.text, PV.int IntKind.i64 x3.n, PV.bool x3.has, PV.bool x3.turned, PV.int IntKind.i64 x3.form.rx.kind, PV.str x3.form.rx.char, PV.bool x3.form.rx.not, PV.sl x3.form.rx.rows.nil (szc 2 x3.form.rx.rows.l) (List.map T.Row.enc x3.form.rx.rows.l), PV.int IntKind.i64 x3.form.rx.min, PV.int IntKind.i64 x3.form.rx.max, PV.bool x3.form.rx.lazy, PV.sl x3.form.rx.kids.nil (szc 8 x3.form.rx.kids.l) (List.map T.Rx.enc x3.form.rx.kids.l), PV.sl x3.form.fmts.nil (szc 5 x3.form.fmts.l) (List.map T.Fmt.enc x3.form.fmts.l), PV.bool x3.form.fold, PV.bool x3.form.all, PV.sl x3.opts.nil (szc 1 x3.opts.l) (List.map strE x3.opts.l), PV.sl x3.kids.nil (szc 18 x3.kids.l) (List.map T.Snip.enc x3.kids.l)]] = List.map T.Snip.enc (out ++ [x3]) := by simp only [List.map_append, List.map_cons, List.map_nil, u8_nat, u8_wrap, szc_nil, T.Snip.enc_eq]
  have f20 := ih26 _ _ h
  try dsimp only at f20
  try simp only [T.Snip.enc_eq, encx.down, Nat.zero_add, Nat.reduceAdd] at f20
  clear h
  clear ih26
  rotate_left
  rw [if_neg h4] at h; replace h4 := Bool.eq_false_iff.2 h4
  by_cases h13 : ¬ (roomOK (out.length + 1) 224 = true)
  rw [if_neg h13] at h; cases h
  replace h13 := Decidable.of_not_not h13; rw [if_pos h13] at h
  have f21 := h13
  have f22 := fun te β nx c0 (h1 : 18 = te.size) (h2 : roomOK (out.length + 1) te.bytes = true) => rowApp_G te β 18 nx T.Snip.enc out c0 [] h1 h2
  have f23 : List.map T.Snip.enc out ++ [[PV.int IntKind.i64 x3.kind, PV.str x3.text, PV.int IntKind.i64 x3.n, PV.bool x3.has, PV.bool x3.turned, PV.int IntKind.i64 x3.form.rx.kind, PV.str x3.form.rx.char, PV.bool x3.form.rx.not, PV.sl x3.form.rx.rows.nil (szc 2 x3.form.rx.rows.l) (List.map T.Row.enc x3.form.rx.rows.l), PV.int IntKind.i64 x3.form.rx.min, PV.int IntKind.i64 x3.form.rx.max, PV.bool x3.form.rx.lazy, PV.sl x3.form.rx.kids.nil (szc 8 x3.form.rx.kids.l) (List.map T.Rx.enc x3.form.rx.kids.l), PV.sl x3.form.fmts.nil (szc 5 x3.form.fmts.l) (List.map T.Fmt.enc x3.form.fmts.l), PV.bool x3.form.fold, PV.bool x3.form.all, PV.sl x3.opts.nil (szc 1 x3.opts.l) (List.map strE x3.opts.l), PV.sl x3.kids.nil (szc 18 x3.kids.l) (List.map T.Snip.enc x3.kids.l)]] = List.map T.Snip.enc (out ++ [x3]) := by simp only [List.map_append, List.map_cons, List.map_nil, u8_nat, u8_wrap, szc_nil, T.Snip.enc_eq]
  have f24 := ih26 _ _ h
  try dsimp only at f24
  try simp only [T.Snip.enc_eq, encx.down, Nat.zero_add, Nat.reduceAdd] at f24
  clear h
  clear ih26
  rotate_left
  rw [if_neg h1] at h; replace h1 := Bool.eq_false_iff.2 h1
  cases h
  clear ih26
  rotate_left
  all_goals
    refine omega_L fn14 (by rfl) ?_
    simp (disch := first | assumption | rfl | exact Sure.mk (by kernel_rfl)) only [go_sem, coreG.down, tab.down, ↓reduceIte, Nat.reduceLeDiff, Nat.reduceEqDiff, Nat.reduceLT, Nat.reduceAdd, Nat.reduceSub, Nat.reduceMul, reduceCtorEq, Nat.reducePow, sp14_0, T.Snip.enc_eq, *]
set_option maxHeartbeats 4000000 in
theorem ref20_Join_ok {l : (Sl T.Snip)} {r : ((Sl T.Snip))} (h : ref20_Join l = some r) :
    O.call 14 [AV.pv (PV.sl l.nil (szc 18 l.l) (List.map T.Snip.enc l.l))] [] = some (AV.pv (PV.sl r.nil (szc 18 r.l) (List.map T.Snip.enc r.l)), []) := by
  unfold ref20_Join at h
  obtain ⟨v2, h1, h⟩ := Option.bind_eq_some_iff.1 h
  have f1 := ref20_Join_L0_ok h1
  try simp only [T.Snip.enc_eq, encx.down, Nat.zero_add, Nat.reduceAdd] at f1
  cases h
  rotate_left
  all_goals
    refine omega_F rfl fn14 (by rfl) (by rfl) rfl ?_
    simp (disch := first | assumption | rfl | exact Sure.mk (by kernel_rfl)) only [go_sem, coreG.down, tab.down, ↓reduceIte, Nat.reduceLeDiff, Nat.reduceEqDiff, Nat.reduceLT, Nat.reduceAdd, Nat.reduceSub, Nat.reduceMul, reduceCtorEq, Nat.reducePow, sp14_0, T.Snip.enc_eq, *]
def slices_Equal_LRow_L0_enc : ((Bool) ⊕ (Unit)) → Ex × St
  | .inl y => (Ex.ret, ⟨[(4, AV.pv (PV.bool y))], [], 0⟩)
  | .inr y => (Ex.normal, ⟨[(4, AV.undef)], [], 0⟩)
set_option maxHeartbeats 4000000 in
theorem slices_Equal_LRow_L0_ok {s1 : (Sl T.Row)} {s2 : (Sl T.Row)} {t12 : Int} {t13 : Int} {r : ((Bool) ⊕ (Unit))} (h : slices_Equal_LRow_L0 (s1, s2, t12, t13) = some r) :
    O.loop 56 0 ⟨[(0, AV.pv (PV.sl s1.nil (szc 2 s1.l) (List.map T.Row.enc s1.l))), (1, AV.pv (PV.sl s2.nil (szc 2 s2.l) (List.map T.Row.enc s2.l))), (12, AV.pv (PV.int IntKind.i64 t12)), (13, AV.pv (PV.int IntKind.i64 t13))], [], 0⟩ = some (slices_Equal_LRow_L0_enc r) := by
  refine slices_Equal_LRow_L0.partial_correctness (fun p r => O.loop 56 0 ⟨[(0, AV.pv (PV.sl p.1.nil (szc 2 p.1.l) (List.map T.Row.enc p.1.l))), (1, AV.pv (PV.sl p.2.1.nil (szc 2 p.2.1.l) (List.map T.Row.enc p.2.1.l))), (12, AV.pv (PV.int IntKind.i64 p.2.2.1)), (13, AV.pv (PV.int IntKind.i64 p.2.2.2))], [], 0⟩ = some (slices_Equal_LRow_L0_enc r)) ?_ (s1, s2, t12, t13) r h
  clear h r s1 s2 t12 t13
  intro slices_Equal_LRow_L0 ih34
  rintro ⟨s1, s2, t12, t13⟩ r h
  dsimp only at h ⊢
  by_cases h1 : (decide (t13 < t12)) = true
  rw [if_pos h1] at h
  obtain ⟨x3, h2, h⟩ := Option.bind_eq_some_iff.1 h
  have f1 := geti_nat h2 IntKind.i64
  have f2 := geti_map T.Row.enc h2
  try simp only [T.Row.enc_eq, encx.down, Nat.zero_add, Nat.reduceAdd] at f2
  have f3 := geti_szcT h2 2
  obtain ⟨x5, h4, h⟩ := Option.bind_eq_some_iff.1 h
  have f4 := geti_nat h4 IntKind.i64
  have f5 := geti_map T.Row.enc h4
  try simp only [T.Row.enc_eq, encx.down, Nat.zero_add, Nat.reduceAdd] at f5
  have f6 := geti_szcT h4 2
  by_cases h6 : (!(x3.frm == x5.frm && (x3.to == x5.to))) = true
  rw [if_pos h6] at h
  cases h
  show _ = some (slices_Equal_LRow_L0_enc (.inl _))
  dsimp only [slices_Equal_LRow_L0_enc]
  clear ih34
  rotate_left
  rw [if_neg h6] at h; replace h6 := Bool.eq_false_iff.2 h6
  have f7 := ih34 _ _ h
  try dsimp only at f7
  try simp only [T.Row.enc_eq, encx.down, Nat.zero_add, Nat.reduceAdd] at f7
  clear h
  clear ih34
  rotate_left
  rw [if_neg h1] at h; replace h1 := Bool.eq_false_iff.2 h1
  cases h
  show _ = some (slices_Equal_LRow_L0_enc (.inr _))
  dsimp only [slices_Equal_LRow_L0_enc]
  clear ih34
  rotate_left
  all_goals
    refine omega_L fn56 (by rfl) ?_
    simp (disch := first | assumption | rfl | exact Sure.mk (by kernel_rfl)) only [go_sem, coreG.down, tab.down, ↓reduceIte, Nat.reduceLeDiff, Nat.reduceEqDiff, Nat.reduceLT, Nat.reduceAdd, Nat.reduceSub, Nat.reduceMul, reduceCtorEq, Nat.reducePow, sp56_0, T.Row.enc_eq, *]
set_option maxHeartbeats 4000000 in
theorem slices_Equal_LRow_ok {s1 : (Sl T.Row)} {s2 : (Sl T.Row)} {r : (Bool)} (h : slices_Equal_LRow s1 s2 = some r) :
    O.call 56 [AV.pv (PV.sl s1.nil (szc 2 s1.l) (List.map T.Row.enc s1.l)), AV.pv (PV.sl s2.nil (szc 2 s2.l) (List.map T.Row.enc s2.l))] [] = some (AV.pv (PV.bool r), []) := by
  unfold slices_Equal_LRow at h
  by_cases h1 : ((s1.l.length : Int) != (s2.l.length : Int)) = true
  rw [if_pos h1] at h
  cases h
  rotate_left
  rw [if_neg h1] at h; replace h1 := Bool.eq_false_iff.2 h1
  obtain ⟨v3, h2, h⟩ := Option.bind_eq_some_iff.1 h
  have f1 := slices_Equal_LRow_L0_ok h2
  try simp only [T.Row.enc_eq, encx.down, Nat.zero_add, Nat.reduceAdd] at f1
  rcases v3 with y4 | y5
  dsimp only at h
  simp only [slices_Equal_LRow_L0_enc, T.Row.enc_eq, encx.down, Nat.zero_add, Nat.reduceAdd] at f1
  cases h
  rotate_left
  dsimp only at h
  simp only [slices_Equal_LRow_L0_enc, T.Row.enc_eq, encx.down, Nat.zero_add, Nat.reduceAdd] at f1
  cases h
  rotate_left
  all_goals
    refine omega_F rfl fn56 (by rfl) (by rfl) rfl ?_
    simp (disch := first | assumption | rfl | exact Sure.mk (by kernel_rfl)) only [go_sem, coreG.down, tab.down, ↓reduceIte, Nat.reduceLeDiff, Nat.reduceEqDiff, Nat.reduceLT, Nat.reduceAdd, Nat.reduceSub, Nat.reduceMul, reduceCtorEq, Nat.reducePow, sp56_0, T.Row.enc_eq, *]
def slices_EqualFunc_LRx_rxtree_Same_L0_enc : ((Bool) ⊕ (Unit)) → Ex × St
  | .inl y => (Ex.ret, ⟨[(6, AV.pv (PV.bool y))], [], 0⟩)
  | .inr y => (Ex.normal, ⟨[(6, AV.undef)], [], 0⟩)
set_option maxHeartbeats 4000000 in
theorem rxtree_Same_all : (∀ p r, rxtree_Same p = some r → O.call 47 [AV.pv (PV.agg (T.Rx.enc p.1)), AV.pv (PV.agg (T.Rx.enc p.2))] [] = some (AV.pv (PV.bool r), [])) ∧ (∀ p r, slices_EqualFunc_LRx_rxtree_Same p = some r → O.call 57 [AV.pv (PV.sl p.1.nil (szc 8 p.1.l) (List.map T.Rx.enc p.1.l)), AV.pv (PV.sl p.2.nil (szc 8 p.2.l) (List.map T.Rx.enc p.2.l)), AV.pv (PV.fn 47)] [] = some (AV.pv (PV.bool r), [])) ∧ (∀ p r, slices_EqualFunc_LRx_rxtree_Same_L0 p = some r → O.loop 57 0 ⟨[(1, AV.pv (PV.sl p.1.nil (szc 8 p.1.l) (List.map T.Rx.enc p.1.l))), (2, AV.pv (PV.fn 47)), (15, AV.pv (PV.sl p.2.1.nil (szc 8 p.2.1.l) (List.map T.Rx.enc p.2.1.l))), (16, AV.pv (PV.int IntKind.i64 p.2.2.1)), (17, AV.pv (PV.int IntKind.i64 p.2.2.2))], [], 0⟩ = some (slices_EqualFunc_LRx_rxtree_Same_L0_enc r)) := by
  refine rxtree_Same.mutual_partial_correctness (fun p r => O.call 47 [AV.pv (PV.agg (T.Rx.enc p.1)), AV.pv (PV.agg (T.Rx.enc p.2))] [] = some (AV.pv (PV.bool r), [])) (fun p r => O.call 57 [AV.pv (PV.sl p.1.nil (szc 8 p.1.l) (List.map T.Rx.enc p.1.l)), AV.pv (PV.sl p.2.nil (szc 8 p.2.l) (List.map T.Rx.enc p.2.l)), AV.pv (PV.fn 47)] [] = some (AV.pv (PV.bool r), [])) (fun p r => O.loop 57 0 ⟨[(1, AV.pv (PV.sl p.1.nil (szc 8 p.1.l) (List.map T.Rx.enc p.1.l))), (2, AV.pv (PV.fn 47)), (15, AV.pv (PV.sl p.2.1.nil (szc 8 p.2.1.l) (List.map T.Rx.enc p.2.1.l))), (16, AV.pv (PV.int IntKind.i64 p.2.2.1)), (17, AV.pv (PV.int IntKind.i64 p.2.2.2))], [], 0⟩ = some (slices_EqualFunc_LRx_rxtree_Same_L0_enc r)) ?_ ?_ ?_
  · intro slices_EqualFunc_LRx_rxtree_Same ih35
    rintro ⟨a, b⟩ r h
    dsimp only at h ⊢
    by_cases g1 : ((a.kind == b.kind) && ((a.char == b.char) && (a.not == b.not))) = true
    rw [if_pos g1] at h
    rcases (by intro u0 u1 u2; cases u0 <;> cases u1 <;> cases u2 <;> simp [Dum] : ∀ u0 u1 u2 : Bool, (u0 && (u1 && u2)) = true → (u0 = true ∧ u1 = true ∧ u2 = true)) (a.kind == b.kind) (a.char == b.char) (a.not == b.not) g1 with ⟨h1, h2, h3⟩
    clear g1
    obtain ⟨v5, h4, h⟩ := Option.bind_eq_some_iff.1 h
    have f2 := slices_Equal_LRow_ok h4
    try simp only [T.Row.enc_eq, encx.down, Nat.zero_add, Nat.reduceAdd] at f2
    by_cases g3 : (v5 && ((a.min == b.min) && ((a.max == b.max) && (a.lazy == b.lazy)))) = true
    rw [if_pos g3] at h
    rcases (by intro u0 u1 u2 u3; cases u0 <;> cases u1 <;> cases u2 <;> cases u3 <;> simp [Dum] : ∀ u0 u1 u2 u3 : Bool, (u0 && (u1 && (u2 && u3))) = true → (u0 = true ∧ u1 = true ∧ u2 = true ∧ u3 = true)) v5 (a.min == b.min) (a.max == b.max) (a.lazy == b.lazy) g3 with ⟨h6, h7, h8, h9⟩
    clear g3
    obtain ⟨v11, h10, h⟩ := Option.bind_eq_some_iff.1 h
    have f4 := ih35 _ _ h10
    try dsimp only at f4
    try simp only [T.Rx.enc_eq, encx.down, Nat.zero_add, Nat.reduceAdd] at f4
    try simp only [h6] at f2 f4
    cases h
    clear ih35
    rotate_left
    focus
      rw [if_neg g3] at h; replace g3 := Bool.eq_false_iff.2 g3
      rcases (by intro u0 u1 u2 u3; cases u0 <;> cases u1 <;> cases u2 <;> cases u3 <;> simp [Dum] : ∀ u0 u1 u2 u3 : Bool, (u0 && (u1 && (u2 && u3))) = false → (u0 = false ∧ Dum ∧ Dum ∧ Dum) ∨ (u0 = true ∧ u1 = false ∧ Dum ∧ Dum) ∨ (u0 = true ∧ u1 = true ∧ u2 = false ∧ Dum) ∨ (u0 = true ∧ u1 = true ∧ u2 = true ∧ u3 = false)) v5 (a.min == b.min) (a.max == b.max) (a.lazy == b.lazy) g3 with ⟨h6, h7, h8, h9⟩ | ⟨h6, h7, h8, h9⟩ | ⟨h6, h7, h8, h9⟩ | ⟨h6, h7, h8, h9⟩
      clear g3
      all_goals
        try simp only [h6] at f2
        cases h
        clear ih35
        rotate_left
    rotate_left 4
    focus
      rw [if_neg g1] at h; replace g1 := Bool.eq_false_iff.2 g1
      rcases (by intro u0 u1 u2; cases u0 <;> cases u1 <;> cases u2 <;> simp [Dum] : ∀ u0 u1 u2 : Bool, (u0 && (u1 && u2)) = false → (u0 = false ∧ Dum ∧ Dum) ∨ (u0 = true ∧ u1 = false ∧ Dum) ∨ (u0 = true ∧ u1 = true ∧ u2 = false)) (a.kind == b.kind) (a.char == b.char) (a.not == b.not) g1 with ⟨h1, h2, h3⟩ | ⟨h1, h2, h3⟩ | ⟨h1, h2, h3⟩
      clear g1
      all_goals
        cases h
        clear ih35
        rotate_left
    rotate_left 3
    all_goals
      refine omega_F rfl fn47 (by rfl) (by rfl) rfl ?_
      simp (disch := first | assumption | rfl | exact Sure.mk (by kernel_rfl)) only [go_sem, coreG.down, tab.down, ↓reduceIte, Nat.reduceLeDiff, Nat.reduceEqDiff, Nat.reduceLT, Nat.reduceAdd, Nat.reduceSub, Nat.reduceMul, reduceCtorEq, Nat.reducePow, sp57_0, T.Rx.enc_eq, *]
  · intro slices_EqualFunc_LRx_rxtree_Same_L0 ih36
    rintro ⟨s1, s2⟩ r h
    dsimp only at h ⊢
    by_cases h1 : ((s1.l.length : Int) != (s2.l.length : Int)) = true
    rw [if_pos h1] at h
    cases h
    clear ih36
    rotate_left
    rw [if_neg h1] at h; replace h1 := Bool.eq_false_iff.2 h1
    obtain ⟨v3, h2, h⟩ := Option.bind_eq_some_iff.1 h
    have f1 := ih36 _ _ h2
    try dsimp only at f1
    try simp only [T.Rx.enc_eq, encx.down, Nat.zero_add, Nat.reduceAdd] at f1
    rcases v3 with y4 | y5
    dsimp only at h
    simp only [slices_EqualFunc_LRx_rxtree_Same_L0_enc, T.Rx.enc_eq, encx.down, Nat.zero_add, Nat.reduceAdd] at f1
    cases h
    clear ih36
    rotate_left
    dsimp only at h
    simp only [slices_EqualFunc_LRx_rxtree_Same_L0_enc, T.Rx.enc_eq, encx.down, Nat.zero_add, Nat.reduceAdd] at f1
    cases h
    clear ih36
    rotate_left
    all_goals
      refine omega_F rfl fn57 (by rfl) (by rfl) rfl ?_
      simp (disch := first | assumption | rfl | exact Sure.mk (by kernel_rfl)) only [go_sem, coreG.down, tab.down, ↓reduceIte, Nat.reduceLeDiff, Nat.reduceEqDiff, Nat.reduceLT, Nat.reduceAdd, Nat.reduceSub, Nat.reduceMul, reduceCtorEq, Nat.reducePow, sp57_0, T.Rx.enc_eq, *]
  · intro rxtree_Same slices_EqualFunc_LRx_rxtree_Same_L0 ih32 ih36
    rintro ⟨s2, t15, t16, t17⟩ r h
    dsimp only at h ⊢
    by_cases h1 : (decide (t17 < t16)) = true
    rw [if_pos h1] at h
    obtain ⟨x3, h2, h⟩ := Option.bind_eq_some_iff.1 h
    have f1 := geti_nat h2 IntKind.i64
    have f2 := geti_map T.Rx.enc h2
    try simp only [T.Rx.enc_eq, encx.down, Nat.zero_add, Nat.reduceAdd] at f2
    have f3 := geti_szcT h2 8
    obtain ⟨x5, h4, h⟩ := Option.bind_eq_some_iff.1 h
    have f4 := geti_nat h4 IntKind.i64
    have f5 := geti_map T.Rx.enc h4
    try simp only [T.Rx.enc_eq, encx.down, Nat.zero_add, Nat.reduceAdd] at f5
    have f6 := geti_szcT h4 8
    obtain ⟨v7, h6, h⟩ := Option.bind_eq_some_iff.1 h
    have f7 := ih32 _ _ h6
    try dsimp only at f7
    try simp only [T.Rx.enc_eq, encx.down, Nat.zero_add, Nat.reduceAdd] at f7
    by_cases h8 : (!v7) = true
    rw [if_pos h8] at h
    cases h
    show _ = some (slices_EqualFunc_LRx_rxtree_Same_L0_enc (.inl _))
    dsimp only [slices_EqualFunc_LRx_rxtree_Same_L0_enc]
    clear ih32 ih36
    rotate_left
    rw [if_neg h8] at h; replace h8 := Bool.eq_false_iff.2 h8
    have f8 := ih36 _ _ h
    try dsimp only at f8
    try simp only [T.Rx.enc_eq, encx.down, Nat.zero_add, Nat.reduceAdd] at f8
    clear h
    clear ih32 ih36
    rotate_left
    rw [if_neg h1] at h; replace h1 := Bool.eq_false_iff.2 h1
    cases h
    show _ = some (slices_EqualFunc_LRx_rxtree_Same_L0_enc (.inr _))
    dsimp only [slices_EqualFunc_LRx_rxtree_Same_L0_enc]
    clear ih32 ih36
    rotate_left
    all_goals
      refine omega_L fn57 (by rfl) ?_
      simp (disch := first | assumption | rfl | exact Sure.mk (by kernel_rfl)) only [go_sem, coreG.down, tab.down, ↓reduceIte, Nat.reduceLeDiff, Nat.reduceEqDiff, Nat.reduceLT, Nat.reduceAdd, Nat.reduceSub, Nat.reduceMul, reduceCtorEq, Nat.reducePow, sp57_0, T.Rx.enc_eq, *]
set_option maxHeartbeats 4000000 in
theorem rxtree_Same_ok {a : T.Rx} {b : T.Rx} {r : (Bool)} (h : rxtree_Same (a, b) = some r) :
    O.call 47 [AV.pv (PV.agg (T.Rx.enc a)), AV.pv (PV.agg (T.Rx.enc b))] [] = some (AV.pv (PV.bool r), []) := rxtree_Same_all.1 (a, b) r h
set_option maxHeartbeats 4000000 in
theorem slices_EqualFunc_LRx_rxtree_Same_ok {s1 : (Sl T.Rx)} {s2 : (Sl T.Rx)} {r : (Bool)} (h : slices_EqualFunc_LRx_rxtree_Same (s1, s2) = some r) :
    O.call 57 [AV.pv (PV.sl s1.nil (szc 8 s1.l) (List.map T.Rx.enc s1.l)), AV.pv (PV.sl s2.nil (szc 8 s2.l) (List.map T.Rx.enc s2.l)), AV.pv (PV.fn 47)] [] = some (AV.pv (PV.bool r), []) := rxtree_Same_all.2.1 (s1, s2) r h
set_option maxHeartbeats 4000000 in
theorem slices_EqualFunc_LRx_rxtree_Same_L0_ok {s2 : (Sl T.Rx)} {t15 : (Sl T.Rx)} {t16 : Int} {t17 : Int} {r : ((Bool) ⊕ (Unit))} (h : slices_EqualFunc_LRx_rxtree_Same_L0 (s2, t15, t16, t17) = some r) :
    O.loop 57 0 ⟨[(1, AV.pv (PV.sl s2.nil (szc 8 s2.l) (List.map T.Rx.enc s2.l))), (2, AV.pv (PV.fn 47)), (15, AV.pv (PV.sl t15.nil (szc 8 t15.l) (List.map T.Rx.enc t15.l))), (16, AV.pv (PV.int IntKind.i64 t16)), (17, AV.pv (PV.int IntKind.i64 t17))], [], 0⟩ = some (slices_EqualFunc_LRx_rxtree_Same_L0_enc r) := rxtree_Same_all.2.2 (s2, t15, t16, t17) r h
def slices_Equal_LFmt_L0_enc : ((Bool) ⊕ (Unit)) → Ex × St
  | .inl y => (Ex.ret, ⟨[(4, AV.pv (PV.bool y))], [], 0⟩)
  | .inr y => (Ex.normal, ⟨[(4, AV.undef)], [], 0⟩)
set_option maxHeartbeats 4000000 in
theorem slices_Equal_LFmt_L0_ok {s1 : (Sl T.Fmt)} {s2 : (Sl T.Fmt)} {t12 : Int} {t13 : Int} {r : ((Bool) ⊕ (Unit))} (h : slices_Equal_LFmt_L0 (s1, s2, t12, t13) = some r) :
    O.loop 48 0 ⟨[(0, AV.pv (PV.sl s1.nil (szc 5 s1.l) (List.map T.Fmt.enc s1.l))), (1, AV.pv (PV.sl s2.nil (szc 5 s2.l) (List.map T.Fmt.enc s2.l))), (12, AV.pv (PV.int IntKind.i64 t12)), (13, AV.pv (PV.int IntKind.i64 t13))], [], 0⟩ = some (slices_Equal_LFmt_L0_enc r) := by
  refine slices_Equal_LFmt_L0.partial_correctness (fun p r => O.loop 48 0 ⟨[(0, AV.pv (PV.sl p.1.nil (szc 5 p.1.l) (List.map T.Fmt.enc p.1.l))), (1, AV.pv (PV.sl p.2.1.nil (szc 5 p.2.1.l) (List.map T.Fmt.enc p.2.1.l))), (12, AV.pv (PV.int IntKind.i64 p.2.2.1)), (13, AV.pv (PV.int IntKind.i64 p.2.2.2))], [], 0⟩ = some (slices_Equal_LFmt_L0_enc r)) ?_ (s1, s2, t12, t13) r h
  clear h r s1 s2 t12 t13
  intro slices_Equal_LFmt_L0 ih38
  rintro ⟨s1, s2, t12, t13⟩ r h
  dsimp only at h ⊢
  by_cases h1 : (decide (t13 < t12)) = true
  rw [if_pos h1] at h
  obtain ⟨x3, h2, h⟩ := Option.bind_eq_some_iff.1 h
  have f1 := geti_nat h2 IntKind.i64
  have f2 := geti_map T.Fmt.enc h2
  try simp only [T.Fmt.enc_eq, encx.down, Nat.zero_add, Nat.reduceAdd] at f2
  have f3 := geti_szcT h2 5
  obtain ⟨x5, h4, h⟩ := Option.bind_eq_some_iff.1 h
  have f4 := geti_nat h4 IntKind.i64
  have f5 := geti_map T.Fmt.enc h4
  try simp only [T.Fmt.enc_eq, encx.down, Nat.zero_add, Nat.reduceAdd] at f5
  have f6 := geti_szcT h4 5
  by_cases h6 : (!(x3.kind == x5.kind && (x3.n == x5.n && (x3.cas == x5.cas && (x3.thn == x5.thn && (x3.els == x5.els)))))) = true
  rw [if_pos h6] at h
  cases h
  show _ = some (slices_Equal_LFmt_L0_enc (.inl _))
  dsimp only [slices_Equal_LFmt_L0_enc]
  clear ih38
  rotate_left
  rw [if_neg h6] at h; replace h6 := Bool.eq_false_iff.2 h6
  have f7 := ih38 _ _ h
  try dsimp only at f7
  try simp only [T.Fmt.enc_eq, encx.down, Nat.zero_add, Nat.reduceAdd] at f7
  clear h
  clear ih38
  rotate_left
  rw [if_neg h1] at h; replace h1 := Bool.eq_false_iff.2 h1
  cases h
  show _ = some (slices_Equal_LFmt_L0_enc (.inr _))
  dsimp only [slices_Equal_LFmt_L0_enc]
  clear ih38
  rotate_left
  all_goals
    refine omega_L fn48 (by rfl) ?_
    simp (disch := first | assumption | rfl | exact Sure.mk (by kernel_rfl)) only [go_sem, coreG.down, tab.down, ↓reduceIte, Nat.reduceLeDiff, Nat.reduceEqDiff, Nat.reduceLT, Nat.reduceAdd, Nat.reduceSub, Nat.reduceMul, reduceCtorEq, Nat.reducePow, sp48_0, T.Fmt.enc_eq, *]
set_option maxHeartbeats 4000000 in
theorem slices_Equal_LFmt_ok {s1 : (Sl T.Fmt)} {s2 : (Sl T.Fmt)} {r : (Bool)} (h : slices_Equal_LFmt s1 s2 = some r) :
    O.call 48 [AV.pv (PV.sl s1.nil (szc 5 s1.l) (List.map T.Fmt.enc s1.l)), AV.pv (PV.sl s2.nil (szc 5 s2.l) (List.map T.Fmt.enc s2.l))] [] = some (AV.pv (PV.bool r), []) := by
  unfold slices_Equal_LFmt at h
  by_cases h1 : ((s1.l.length : Int) != (s2.l.length : Int)) = true
  rw [if_pos h1] at h
  cases h
  rotate_left
  rw [if_neg h1] at h; replace h1 := Bool.eq_false_iff.2 h1
  obtain ⟨v3, h2, h⟩ := Option.bind_eq_some_iff.1 h
  have f1 := slices_Equal_LFmt_L0_ok h2
  try simp only [T.Fmt.enc_eq, encx.down, Nat.zero_add, Nat.reduceAdd] at f1
  rcases v3 with y4 | y5
  dsimp only at h
  simp only [slices_Equal_LFmt_L0_enc, T.Fmt.enc_eq, encx.down, Nat.zero_add, Nat.reduceAdd] at f1
  cases h
  rotate_left
  dsimp only at h
  simp only [slices_Equal_LFmt_L0_enc, T.Fmt.enc_eq, encx.down, Nat.zero_add, Nat.reduceAdd] at f1
  cases h
  rotate_left
  all_goals
    refine omega_F rfl fn48 (by rfl) (by rfl) rfl ?_
    simp (disch := first | assumption | rfl | exact Sure.mk (by kernel_rfl)) only [go_sem, coreG.down, tab.down, ↓reduceIte, Nat.reduceLeDiff, Nat.reduceEqDiff, Nat.reduceLT, Nat.reduceAdd, Nat.reduceSub, Nat.reduceMul, reduceCtorEq, Nat.reducePow, sp48_0, T.Fmt.enc_eq, *]
set_option maxHeartbeats 4000000 in
theorem xform_Same_ok {f : T.Form} {g : T.Form} {r : (Bool)} (h : xform_Same f g = some r) :
    O.call 38 [AV.pv (PV.agg (T.Form.enc f)), AV.pv (PV.agg (T.Form.enc g))] [] = some (AV.pv (PV.bool r), []) := by
  unfold xform_Same at h
  obtain ⟨v2, h1, h⟩ := Option.bind_eq_some_iff.1 h
  have f1 := rxtree_Same_ok h1
  try simp only [T.Rx.enc_eq, encx.down, Nat.zero_add, Nat.reduceAdd] at f1
  by_cases h3 : v2 = true
  rw [if_pos h3] at h
  obtain ⟨v5, h4, h⟩ := Option.bind_eq_some_iff.1 h
  have f2 := slices_Equal_LFmt_ok h4
  try simp only [T.Fmt.enc_eq, encx.down, Nat.zero_add, Nat.reduceAdd] at f2
  by_cases g3 : (v5 && (f.fold == g.fold)) = true
  rw [if_pos g3] at h
  rcases (by intro u0 u1; cases u0 <;> cases u1 <;> simp [Dum] : ∀ u0 u1 : Bool, (u0 && u1) = true → (u0 = true ∧ u1 = true)) v5 (f.fold == g.fold) g3 with ⟨h6, h7⟩
  clear g3
  try simp only [h3, h6] at f1 f2
  cases h
  rotate_left
  focus
    rw [if_neg g3] at h; replace g3 := Bool.eq_false_iff.2 g3
    rcases (by intro u0 u1; cases u0 <;> cases u1 <;> simp [Dum] : ∀ u0 u1 : Bool, (u0 && u1) = false → (u0 = false ∧ Dum) ∨ (u0 = true ∧ u1 = false)) v5 (f.fold == g.fold) g3 with ⟨h6, h7⟩ | ⟨h6, h7⟩
    clear g3
    all_goals
      try simp only [h3, h6] at f1 f2
      cases h
      rotate_left
  rotate_left 2
  rw [if_neg h3] at h; replace h3 := Bool.eq_false_iff.2 h3
  try simp only [h3] at f1
  cases h
  rotate_left
  all_goals
    refine omega_F rfl fn38 (by rfl) (by rfl) rfl ?_
    simp (disch := first | assumption | rfl | exact Sure.mk (by kernel_rfl)) only [go_sem, coreG.down, tab.down, ↓reduceIte, Nat.reduceLeDiff, Nat.reduceEqDiff, Nat.reduceLT, Nat.reduceAdd, Nat.reduceSub, Nat.reduceMul, reduceCtorEq, Nat.reducePow, T.Form.enc_eq, *]
def slices_Equal_Lstring_L0_enc : ((Bool) ⊕ (Unit)) → Ex × St
  | .inl y => (Ex.ret, ⟨[(4, AV.pv (PV.bool y))], [], 0⟩)
  | .inr y => (Ex.normal, ⟨[(4, AV.undef)], [], 0⟩)
set_option maxHeartbeats 4000000 in
theorem slices_Equal_Lstring_L0_ok {s1 : (Sl Bytes)} {s2 : (Sl Bytes)} {t12 : Int} {t13 : Int} {r : ((Bool) ⊕ (Unit))} (h : slices_Equal_Lstring_L0 (s1, s2, t12, t13) = some r) :
    O.loop 39 0 ⟨[(0, AV.pv (PV.sl s1.nil (szc 1 s1.l) (List.map strE s1.l))), (1, AV.pv (PV.sl s2.nil (szc 1 s2.l) (List.map strE s2.l))), (12, AV.pv (PV.int IntKind.i64 t12)), (13, AV.pv (PV.int IntKind.i64 t13))], [], 0⟩ = some (slices_Equal_Lstring_L0_enc r) := by
  refine slices_Equal_Lstring_L0.partial_correctness (fun p r => O.loop 39 0 ⟨[(0, AV.pv (PV.sl p.1.nil (szc 1 p.1.l) (List.map strE p.1.l))), (1, AV.pv (PV.sl p.2.1.nil (szc 1 p.2.1.l) (List.map strE p.2.1.l))), (12, AV.pv (PV.int IntKind.i64 p.2.2.1)), (13, AV.pv (PV.int IntKind.i64 p.2.2.2))], [], 0⟩ = some (slices_Equal_Lstring_L0_enc r)) ?_ (s1, s2, t12, t13) r h
  clear h r s1 s2 t12 t13
  intro slices_Equal_Lstring_L0 ih40
  rintro ⟨s1, s2, t12, t13⟩ r h
  dsimp only at h ⊢
  by_cases h1 : (decide (t13 < t12)) = true
  rw [if_pos h1] at h
  obtain ⟨x3, h2, h⟩ := Option.bind_eq_some_iff.1 h
  have f1 := geti_nat h2 IntKind.i64
  have f2 := geti_map strE h2
  try simp only [strE, encx.down, Nat.zero_add, Nat.reduceAdd] at f2
  have f3 := geti_szcT h2 1
  obtain ⟨x5, h4, h⟩ := Option.bind_eq_some_iff.1 h
  have f4 := geti_nat h4 IntKind.i64
  have f5 := geti_map strE h4
  try simp only [strE, encx.down, Nat.zero_add, Nat.reduceAdd] at f5
  have f6 := geti_szcT h4 1
  by_cases h6 : (!(x3 == x5)) = true
  rw [if_pos h6] at h
  cases h
  show _ = some (slices_Equal_Lstring_L0_enc (.inl _))
  dsimp only [slices_Equal_Lstring_L0_enc]
  clear ih40
  rotate_left
  rw [if_neg h6] at h; replace h6 := Bool.eq_false_iff.2 h6
  have f7 := ih40 _ _ h
  try dsimp only at f7
  try simp only [strE, encx.down, Nat.zero_add, Nat.reduceAdd] at f7
  clear h
  clear ih40
  rotate_left
  rw [if_neg h1] at h; replace h1 := Bool.eq_false_iff.2 h1
  cases h
  show _ = some (slices_Equal_Lstring_L0_enc (.inr _))
  dsimp only [slices_Equal_Lstring_L0_enc]
  clear ih40
  rotate_left
  all_goals
    refine omega_L fn39 (by rfl) ?_
    simp (disch := first | assumption | rfl | exact Sure.mk (by kernel_rfl)) only [go_sem, coreG.down, tab.down, ↓reduceIte, Nat.reduceLeDiff, Nat.reduceEqDiff, Nat.reduceLT, Nat.reduceAdd, Nat.reduceSub, Nat.reduceMul, reduceCtorEq, Nat.reducePow, sp39_0, strE, *]
set_option maxHeartbeats 4000000 in
theorem slices_Equal_Lstring_ok {s1 : (Sl Bytes)} {s2 : (Sl Bytes)} {r : (Bool)} (h : slices_Equal_Lstring s1 s2 = some r) :
    O.call 39 [AV.pv (PV.sl s1.nil (szc 1 s1.l) (List.map strE s1.l)), AV.pv (PV.sl s2.nil (szc 1 s2.l) (List.map strE s2.l))] [] = some (AV.pv (PV.bool r), []) := by
  unfold slices_Equal_Lstring at h
  by_cases h1 : ((s1.l.length : Int) != (s2.l.length : Int)) = true
  rw [if_pos h1] at h
  cases h
  rotate_left
  rw [if_neg h1] at h; replace h1 := Bool.eq_false_iff.2 h1
  obtain ⟨v3, h2, h⟩ := Option.bind_eq_some_iff.1 h
  have f1 := slices_Equal_Lstring_L0_ok h2
  try simp only [strE, encx.down, Nat.zero_add, Nat.reduceAdd] at f1
  rcases v3 with y4 | y5
  dsimp only at h
  simp only [slices_Equal_Lstring_L0_enc, strE, encx.down, Nat.zero_add, Nat.reduceAdd] at f1
  cases h
  rotate_left
  dsimp only at h
  simp only [slices_Equal_Lstring_L0_enc, strE, encx.down, Nat.zero_add, Nat.reduceAdd] at f1
  cases h
  rotate_left
  all_goals
    refine omega_F rfl fn39 (by rfl) (by rfl) rfl ?_
    simp (disch := first | assumption | rfl | exact Sure.mk (by kernel_rfl)) only [go_sem, coreG.down, tab.down, ↓reduceIte, Nat.reduceLeDiff, Nat.reduceEqDiff, Nat.reduceLT, Nat.reduceAdd, Nat.reduceSub, Nat.reduceMul, reduceCtorEq, Nat.reducePow, sp39_0, strE, *]
def slices_EqualFunc_LSnip_snode_same_L0_enc : ((Bool) ⊕ (Unit)) → Ex × St
  | .inl y => (Ex.ret, ⟨[(6, AV.pv (PV.bool y))], [], 0⟩)
  | .inr y => (Ex.normal, ⟨[(6, AV.undef)], [], 0⟩)
set_option maxHeartbeats 4000000 in
theorem snode_Same_all : (∀ p r, snode_Same p = some r → O.call 10 [AV.pv (PV.sl p.1.nil (szc 18 p.1.l) (List.map T.Snip.enc p.1.l)), AV.pv (PV.sl p.2.nil (szc 18 p.2.l) (List.map T.Snip.enc p.2.l))] [] = some (AV.pv (PV.bool r), [])) ∧ (∀ p r, slices_EqualFunc_LSnip_snode_same p = some r → O.call 23 [AV.pv (PV.sl p.1.nil (szc 18 p.1.l) (List.map T.Snip.enc p.1.l)), AV.pv (PV.sl p.2.nil (szc 18 p.2.l) (List.map T.Snip.enc p.2.l)), AV.pv (PV.fn 24)] [] = some (AV.pv (PV.bool r), [])) ∧ (∀ p r, slices_EqualFunc_LSnip_snode_same_L0 p = some r → O.loop 23 0 ⟨[(1, AV.pv (PV.sl p.1.nil (szc 18 p.1.l) (List.map T.Snip.enc p.1.l))), (2, AV.pv (PV.fn 24)), (15, AV.pv (PV.sl p.2.1.nil (szc 18 p.2.1.l) (List.map T.Snip.enc p.2.1.l))), (16, AV.pv (PV.int IntKind.i64 p.2.2.1)), (17, AV.pv (PV.int IntKind.i64 p.2.2.2))], [], 0⟩ = some (slices_EqualFunc_LSnip_snode_same_L0_enc r)) ∧ (∀ p r, snode_same p = some r → O.call 24 [AV.pv (PV.agg (T.Snip.enc p.1)), AV.pv (PV.agg (T.Snip.enc p.2))] [] = some (AV.pv (PV.bool r), [])) := by
  refine snode_Same.mutual_partial_correctness (fun p r => O.call 10 [AV.pv (PV.sl p.1.nil (szc 18 p.1.l) (List.map T.Snip.enc p.1.l)), AV.pv (PV.sl p.2.nil (szc 18 p.2.l) (List.map T.Snip.enc p.2.l))] [] = some (AV.pv (PV.bool r), [])) (fun p r => O.call 23 [AV.pv (PV.sl p.1.nil (szc 18 p.1.l) (List.map T.Snip.enc p.1.l)), AV.pv (PV.sl p.2.nil (szc 18 p.2.l) (List.map T.Snip.enc p.2.l)), AV.pv (PV.fn 24)] [] = some (AV.pv (PV.bool r), [])) (fun p r => O.loop 23 0 ⟨[(1, AV.pv (PV.sl p.1.nil (szc 18 p.1.l) (List.map T.Snip.enc p.1.l))), (2, AV.pv (PV.fn 24)), (15, AV.pv (PV.sl p.2.1.nil (szc 18 p.2.1.l) (List.map T.Snip.enc p.2.1.l))), (16, AV.pv (PV.int IntKind.i64 p.2.2.1)), (17, AV.pv (PV.int IntKind.i64 p.2.2.2))], [], 0⟩ = some (slices_EqualFunc_LSnip_snode_same_L0_enc r)) (fun p r => O.call 24 [AV.pv (PV.agg (T.Snip.enc p.1)), AV.pv (PV.agg (T.Snip.enc p.2))] [] = some (AV.pv (PV.bool r), [])) ?_ ?_ ?_ ?_
  · intro slices_EqualFunc_LSnip_snode_same ih28
    rintro ⟨a, b⟩ r h
    dsimp only at h ⊢
    obtain ⟨v2, h1, h⟩ := Option.bind_eq_some_iff.1 h
    have f1 := ih28 _ _ h1
    try dsimp only at f1
    try simp only [T.Snip.enc_eq, encx.down, Nat.zero_add, Nat.reduceAdd] at f1
    cases h
    clear ih28
    rotate_left
    all_goals
      refine omega_F rfl fn10 (by rfl) (by rfl) rfl ?_
      simp (disch := first | assumption | rfl | exact Sure.mk (by kernel_rfl)) only [go_sem, coreG.down, tab.down, ↓reduceIte, Nat.reduceLeDiff, Nat.reduceEqDiff, Nat.reduceLT, Nat.reduceAdd, Nat.reduceSub, Nat.reduceMul, reduceCtorEq, Nat.reducePow, sp23_0, T.Snip.enc_eq, *]
  · intro slices_EqualFunc_LSnip_snode_same_L0 ih29
    rintro ⟨s1, s2⟩ r h
    dsimp only at h ⊢
    by_cases h1 : ((s1.l.length : Int) != (s2.l.length : Int)) = true
    rw [if_pos h1] at h
    cases h
    clear ih29
    rotate_left
    rw [if_neg h1] at h; replace h1 := Bool.eq_false_iff.2 h1
    obtain ⟨v3, h2, h⟩ := Option.bind_eq_some_iff.1 h
    have f1 := ih29 _ _ h2
    try dsimp only at f1
    try simp only [T.Snip.enc_eq, encx.down, Nat.zero_add, Nat.reduceAdd] at f1
    rcases v3 with y4 | y5
    dsimp only at h
    simp only [slices_EqualFunc_LSnip_snode_same_L0_enc, T.Snip.enc_eq, encx.down, Nat.zero_add, Nat.reduceAdd] at f1
    cases h
    clear ih29
    rotate_left
    dsimp only at h
    simp only [slices_EqualFunc_LSnip_snode_same_L0_enc, T.Snip.enc_eq, encx.down, Nat.zero_add, Nat.reduceAdd] at f1
    cases h
    clear ih29
    rotate_left
    all_goals
      refine omega_F rfl fn23 (by rfl) (by rfl) rfl ?_
      simp (disch := first | assumption | rfl | exact Sure.mk (by kernel_rfl)) only [go_sem, coreG.down, tab.down, ↓reduceIte, Nat.reduceLeDiff, Nat.reduceEqDiff, Nat.reduceLT, Nat.reduceAdd, Nat.reduceSub, Nat.reduceMul, reduceCtorEq, Nat.reducePow, sp23_0, T.Snip.enc_eq, *]
  · intro slices_EqualFunc_LSnip_snode_same_L0 snode_same ih29 ih30
    rintro ⟨s2, t15, t16, t17⟩ r h
    dsimp only at h ⊢
    by_cases h1 : (decide (t17 < t16)) = true
    rw [if_pos h1] at h
    obtain ⟨x3, h2, h⟩ := Option.bind_eq_some_iff.1 h
    have f1 := geti_nat h2 IntKind.i64
    have f2 := geti_map T.Snip.enc h2
    try simp only [T.Snip.enc_eq, encx.down, Nat.zero_add, Nat.reduceAdd] at f2
    have f3 := geti_szcT h2 18
    obtain ⟨x5, h4, h⟩ := Option.bind_eq_some_iff.1 h
    have f4 := geti_nat h4 IntKind.i64
    have f5 := geti_map T.Snip.enc h4
    try simp only [T.Snip.enc_eq, encx.down, Nat.zero_add, Nat.reduceAdd] at f5
    have f6 := geti_szcT h4 18
    obtain ⟨v7, h6, h⟩ := Option.bind_eq_some_iff.1 h
    have f7 := ih30 _ _ h6
    try dsimp only at f7
    try simp only [T.Snip.enc_eq, encx.down, Nat.zero_add, Nat.reduceAdd] at f7
    by_cases h8 : (!v7) = true
    rw [if_pos h8] at h
    cases h
    show _ = some (slices_EqualFunc_LSnip_snode_same_L0_enc (.inl _))
    dsimp only [slices_EqualFunc_LSnip_snode_same_L0_enc]
    clear ih29 ih30
    rotate_left
    rw [if_neg h8] at h; replace h8 := Bool.eq_false_iff.2 h8
    have f8 := ih29 _ _ h
    try dsimp only at f8
    try simp only [T.Snip.enc_eq, encx.down, Nat.zero_add, Nat.reduceAdd] at f8
    clear h
    clear ih29 ih30
    rotate_left
    rw [if_neg h1] at h; replace h1 := Bool.eq_false_iff.2 h1
    cases h
    show _ = some (slices_EqualFunc_LSnip_snode_same_L0_enc (.inr _))
    dsimp only [slices_EqualFunc_LSnip_snode_same_L0_enc]
    clear ih29 ih30
    rotate_left
    all_goals
      refine omega_L fn23 (by rfl) ?_
      simp (disch := first | assumption | rfl | exact Sure.mk (by kernel_rfl)) only [go_sem, coreG.down, tab.down, ↓reduceIte, Nat.reduceLeDiff, Nat.reduceEqDiff, Nat.reduceLT, Nat.reduceAdd, Nat.reduceSub, Nat.reduceMul, reduceCtorEq, Nat.reducePow, sp23_0, T.Snip.enc_eq, *]
  · intro snode_Same ih27
    rintro ⟨a, b⟩ r h
    dsimp only at h ⊢
    by_cases g1 : ((a.kind == b.kind) && ((a.text == b.text) && ((a.n == b.n) && ((a.has == b.has) && (a.turned == b.turned))))) = true
    rw [if_pos g1] at h
    rcases (by intro u0 u1 u2 u3 u4; cases u0 <;> cases u1 <;> cases u2 <;> cases u3 <;> cases u4 <;> simp [Dum] : ∀ u0 u1 u2 u3 u4 : Bool, (u0 && (u1 && (u2 && (u3 && u4)))) = true → (u0 = true ∧ u1 = true ∧ u2 = true ∧ u3 = true ∧ u4 = true)) (a.kind == b.kind) (a.text == b.text) (a.n == b.n) (a.has == b.has) (a.turned == b.turned) g1 with ⟨h1, h2, h3, h4, h5⟩
    clear g1
    obtain ⟨v7, h6, h⟩ := Option.bind_eq_some_iff.1 h
    have f2 := xform_Same_ok h6
    try simp only [T.Form.enc_eq, encx.down, Nat.zero_add, Nat.reduceAdd] at f2
    by_cases h8 : v7 = true
    rw [if_pos h8] at h
    obtain ⟨v10, h9, h⟩ := Option.bind_eq_some_iff.1 h
    have f3 := slices_Equal_Lstring_ok h9
    try simp only [strE, encx.down, Nat.zero_add, Nat.reduceAdd] at f3
    by_cases h11 : v10 = true
    rw [if_pos h11] at h
    obtain ⟨v13, h12, h⟩ := Option.bind_eq_some_iff.1 h
    have f4 := ih27 _ _ h12
    try dsimp only at f4
    try simp only [T.Snip.enc_eq, encx.down, Nat.zero_add, Nat.reduceAdd] at f4
    try simp only [h8, h11] at f2 f3 f4
    cases h
    clear ih27
    rotate_left
    rw [if_neg h11] at h; replace h11 := Bool.eq_false_iff.2 h11
    try simp only [h8, h11] at f2 f3
    cases h
    clear ih27
    rotate_left
    rw [if_neg h8] at h; replace h8 := Bool.eq_false_iff.2 h8
    try simp only [h8] at f2
    cases h
    clear ih27
    rotate_left
    focus
      rw [if_neg g1] at h; replace g1 := Bool.eq_false_iff.2 g1
      rcases (by intro u0 u1 u2 u3 u4; cases u0 <;> cases u1 <;> cases u2 <;> cases u3 <;> cases u4 <;> simp [Dum] : ∀ u0 u1 u2 u3 u4 : Bool, (u0 && (u1 && (u2 && (u3 && u4)))) = false → (u0 = false ∧ Dum ∧ Dum ∧ Dum ∧ Dum) ∨ (u0 = true ∧ u1 = false ∧ Dum ∧ Dum ∧ Dum) ∨ (u0 = true ∧ u1 = true ∧ u2 = false ∧ Dum ∧ Dum) ∨ (u0 = true ∧ u1 = true ∧ u2 = true ∧ u3 = false ∧ Dum) ∨ (u0 = true ∧ u1 = true ∧ u2 = true ∧ u3 = true ∧ u4 = false)) (a.kind == b.kind) (a.text == b.text) (a.n == b.n) (a.has == b.has) (a.turned == b.turned) g1 with ⟨h1, h2, h3, h4, h5⟩ | ⟨h1, h2, h3, h4, h5⟩ | ⟨h1, h2, h3, h4, h5⟩ | ⟨h1, h2, h3, h4, h5⟩ | ⟨h1, h2, h3, h4, h5⟩
      clear g1
      all_goals
        cases h
        clear ih27
        rotate_left
    rotate_left 5
    all_goals
      refine omega_F rfl fn24 (by rfl) (by rfl) rfl ?_
      simp (disch := first | assumption | rfl | exact Sure.mk (by kernel_rfl)) only [go_sem, coreG.down, tab.down, ↓reduceIte, Nat.reduceLeDiff, Nat.reduceEqDiff, Nat.reduceLT, Nat.reduceAdd, Nat.reduceSub, Nat.reduceMul, reduceCtorEq, Nat.reducePow, sp23_0, T.Snip.enc_eq, *]
set_option maxHeartbeats 4000000 in
theorem snode_Same_ok {a : (Sl T.Snip)} {b : (Sl T.Snip)} {r : (Bool)} (h : snode_Same (a, b) = some r) :
    O.call 10 [AV.pv (PV.sl a.nil (szc 18 a.l) (List.map T.Snip.enc a.l)), AV.pv (PV.sl b.nil (szc 18 b.l) (List.map T.Snip.enc b.l))] [] = some (AV.pv (PV.bool r), []) := snode_Same_all.1 (a, b) r h
set_option maxHeartbeats 4000000 in
theorem slices_EqualFunc_LSnip_snode_same_ok {s1 : (Sl T.Snip)} {s2 : (Sl T.Snip)} {r : (Bool)} (h : slices_EqualFunc_LSnip_snode_same (s1, s2) = some r) :
    O.call 23 [AV.pv (PV.sl s1.nil (szc 18 s1.l) (List.map T.Snip.enc s1.l)), AV.pv (PV.sl s2.nil (szc 18 s2.l) (List.map T.Snip.enc s2.l)), AV.pv (PV.fn 24)] [] = some (AV.pv (PV.bool r), []) := snode_Same_all.2.1 (s1, s2) r h
set_option maxHeartbeats 4000000 in
theorem slices_EqualFunc_LSnip_snode_same_L0_ok {s2 : (Sl T.Snip)} {t15 : (Sl T.Snip)} {t16 : Int} {t17 : Int} {r : ((Bool) ⊕ (Unit))} (h : slices_EqualFunc_LSnip_snode_same_L0 (s2, t15, t16, t17) = some r) :
    O.loop 23 0 ⟨[(1, AV.pv (PV.sl s2.nil (szc 18 s2.l) (List.map T.Snip.enc s2.l))), (2, AV.pv (PV.fn 24)), (15, AV.pv (PV.sl t15.nil (szc 18 t15.l) (List.map T.Snip.enc t15.l))), (16, AV.pv (PV.int IntKind.i64 t16)), (17, AV.pv (PV.int IntKind.i64 t17))], [], 0⟩ = some (slices_EqualFunc_LSnip_snode_same_L0_enc r) := snode_Same_all.2.2.1 (s2, t15, t16, t17) r h
set_option maxHeartbeats 4000000 in
theorem snode_same_ok {a : T.Snip} {b : T.Snip} {r : (Bool)} (h : snode_same (a, b) = some r) :
    O.call 24 [AV.pv (PV.agg (T.Snip.enc a)), AV.pv (PV.agg (T.Snip.enc b))] [] = some (AV.pv (PV.bool r), []) := snode_Same_all.2.2.2 (a, b) r h
set_option maxHeartbeats 4000000 in
theorem law20_NodeJoin_ok {s : (Sl T.Snip)} {r : (Bool)} (h : law20_NodeJoin s = some r) :
    O.call 4 [AV.pv (PV.sl s.nil (szc 18 s.l) (List.map T.Snip.enc s.l))] [] = some (AV.pv (PV.bool r), []) := by
  unfold law20_NodeJoin at h
  obtain ⟨v2, h1, h⟩ := Option.bind_eq_some_iff.1 h
  have f1 := law0_Snips_ok h1
  try simp only [T.Snip.enc_eq, encx.down, Nat.zero_add, Nat.reduceAdd] at f1
  by_cases g2 : ((decide (v2 < (0 : Int))) || (decide ((s.l.length : Int) > (20 : Int)))) = true
  focus
    rw [if_pos g2] at h
    rcases (by intro u0 u1; cases u0 <;> cases u1 <;> simp [Dum] : ∀ u0 u1 : Bool, (u0 || u1) = true → (u0 = true ∧ Dum) ∨ (u0 = false ∧ u1 = true)) (decide (v2 < (0 : Int))) (decide ((s.l.length : Int) > (20 : Int))) g2 with ⟨h3, h6⟩ | ⟨h3, h6⟩
    clear g2
    all_goals
      obtain ⟨v5, h4, h⟩ := Option.bind_eq_some_iff.1 h
      have f3 := aw9_ok h4
      try simp only [encx.down, Nat.zero_add, Nat.reduceAdd] at f3
      cases h
      rotate_left
  rotate_left 2
  rw [if_neg g2] at h; replace g2 := Bool.eq_false_iff.2 g2
  rcases (by intro u0 u1; cases u0 <;> cases u1 <;> simp [Dum] : ∀ u0 u1 : Bool, (u0 || u1) = false → (u0 = false ∧ u1 = false)) (decide (v2 < (0 : Int))) (decide ((s.l.length : Int) > (20 : Int))) g2 with ⟨h3, h6⟩
  clear g2
  obtain ⟨v10, h9, h⟩ := Option.bind_eq_some_iff.1 h
  have f4 := law20_NodeJoin_L0_ok h9
  try simp only [T.Snip.enc_eq, encx.down, Nat.zero_add, Nat.reduceAdd] at f4
  obtain ⟨v12, h11, h⟩ := Option.bind_eq_some_iff.1 h
  have f5 := snode_Join_ok h11
  try simp only [T.Snip.enc_eq, encx.down, Nat.zero_add, Nat.reduceAdd] at f5
  obtain ⟨v14, h13, h⟩ := Option.bind_eq_some_iff.1 h
  have f6 := law20_NodeJoin_L2_ok h13
  try simp only [T.Snip.enc_eq, encx.down, Nat.zero_add, Nat.reduceAdd] at f6
  rcases v14 with y15 | y16
  dsimp only at h
  simp only [law20_NodeJoin_L2_enc, T.Snip.enc_eq, encx.down, Nat.zero_add, Nat.reduceAdd] at f6
  cases h
  rotate_left
  dsimp only at h
  simp only [law20_NodeJoin_L2_enc, T.Snip.enc_eq, encx.down, Nat.zero_add, Nat.reduceAdd] at f6
  by_cases g7 : ((y16.2 == v10.1) && (y16.1 == (0 : Int))) = true
  rw [if_pos g7] at h
  rcases (by intro u0 u1; cases u0 <;> cases u1 <;> simp [Dum] : ∀ u0 u1 : Bool, (u0 && u1) = true → (u0 = true ∧ u1 = true)) (y16.2 == v10.1) (y16.1 == (0 : Int)) g7 with ⟨h17, h18⟩
  clear g7
  obtain ⟨v20, h19, h⟩ := Option.bind_eq_some_iff.1 h
  have f8 := ref20_Join_ok h19
  try simp only [T.Snip.enc_eq, encx.down, Nat.zero_add, Nat.reduceAdd] at f8
  obtain ⟨v22, h21, h⟩ := Option.bind_eq_some_iff.1 h
  have f9 := snode_Same_ok h21
  try simp only [T.Snip.enc_eq, encx.down, Nat.zero_add, Nat.reduceAdd] at f9
  by_cases h23 : v22 = true
  rw [if_pos h23] at h
  obtain ⟨v25, h24, h⟩ := Option.bind_eq_some_iff.1 h
  have f10 := snode_Join_ok h24
  try simp only [T.Snip.enc_eq, encx.down, Nat.zero_add, Nat.reduceAdd] at f10
  obtain ⟨v27, h26, h⟩ := Option.bind_eq_some_iff.1 h
  have f11 := snode_Same_ok h26
  try simp only [T.Snip.enc_eq, encx.down, Nat.zero_add, Nat.reduceAdd] at f11
  by_cases h28 : v27 = true
  rw [if_pos h28] at h
  obtain ⟨v30, h29, h⟩ := Option.bind_eq_some_iff.1 h
  have f12 := aw9_ok h29
  try simp only [encx.down, Nat.zero_add, Nat.reduceAdd] at f12
  try simp only [h23, h28] at f1 f4 f5 f6 f8 f9 f10 f11 f12
  cases h
  rotate_left
  rw [if_neg h28] at h; replace h28 := Bool.eq_false_iff.2 h28
  try simp only [h23, h28] at f1 f4 f5 f6 f8 f9 f10 f11
  cases h
  rotate_left
  rw [if_neg h23] at h; replace h23 := Bool.eq_false_iff.2 h23
  try simp only [h23] at f1 f4 f5 f6 f8 f9
  cases h
  rotate_left
  focus
    rw [if_neg g7] at h; replace g7 := Bool.eq_false_iff.2 g7
    rcases (by intro u0 u1; cases u0 <;> cases u1 <;> simp [Dum] : ∀ u0 u1 : Bool, (u0 && u1) = false → (u0 = false ∧ Dum) ∨ (u0 = true ∧ u1 = false)) (y16.2 == v10.1) (y16.1 == (0 : Int)) g7 with ⟨h17, h18⟩ | ⟨h17, h18⟩
    clear g7
    all_goals
      cases h
      rotate_left
  rotate_left 2
  all_goals
    refine omega_F rfl fn4 (by rfl) (by rfl) rfl ?_
    simp (disch := first | assumption | rfl | exact Sure.mk (by kernel_rfl)) only [go_sem, coreG.down, tab.down, ↓reduceIte, Nat.reduceLeDiff, Nat.reduceEqDiff, Nat.reduceLT, Nat.reduceAdd, Nat.reduceSub, Nat.reduceMul, reduceCtorEq, Nat.reducePow, sp4_0, sp4_2, T.Snip.enc_eq, *]
end Go.Proofs.Ytmlmgbnhaenabaa
