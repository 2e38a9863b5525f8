/-
  What the machine's calls come to: the plain functions.
-/
import Derived.Test.YtmlmgbnhaenabaaSp
import Derived.Test.YtmlmgbnhaenabaaSh
import Derived.Test.YtmlmgbnhaenabaaAw
set_option linter.unusedSimpArgs false
set_option linter.unusedVariables false
set_option maxRecDepth 100000
namespace Go.Proofs.Ytmlmgbnhaenabaa
open Go Go.Gm
attribute [local go_sem] needs aop aBin intBin aLoad List.toList_toArray avOf pvOf allPV List.take List.drop List.length_cons List.length_nil List.length_map aStore AV.stor AV.cells List.append aFieldAddr List.getElem?_cons_zero List.getElem?_cons_succ subHeap AV.refs AV.ren AV.rows if_true if_false List.nil_append List.append_nil List.cons_append tupled unz aBuiltin lenTd aLen ptrRows List.getElem?_nil touched List.isEmpty_nil Option.some.injEq aUn pure? PV.cells List.replicate List.set_cons_zero List.set_cons_succ aConvert strBin sliceOf eq_self AV.thaw Blk.thaw aSlice aNil isNilV aEq plainEq fitAll keyFits aMax maxFrom aPart Blk.ren Blk.refs List.flatMap_nil List.flatMap_cons List.map_cons List.map_nil List.drop_zero Option.isSome_none Option.isNone_none Option.isSome_some Option.isNone_some aMakeSlice
def law0_Rx_L0_enc (x : T.Rx) : ((Int × Int) ⊕ (Int)) → Ex × St
  | .inl y => (Ex.ret, ⟨[(1, AV.pv (PV.int IntKind.i64 y.1)), (2, AV.ptr 0 0), (4, AV.pv (PV.int IntKind.i64 y.2))], [(0, Blk.box (List.map AV.pv (T.Rx.enc x)))], 1⟩)
  | .inr y => (Ex.normal, ⟨[(1, AV.pv (PV.int IntKind.i64 y)), (2, AV.ptr 0 0), (4, AV.undef)], [(0, Blk.box (List.map AV.pv (T.Rx.enc x)))], 1⟩)
set_option maxHeartbeats 4000000 in
theorem law0_Rx_L0_ok {n : Int} {i : Int} {x : T.Rx} {r : ((Int × Int) ⊕ (Int))} (h : law0_Rx_L0 (n, i, x) = some r) :
    O.loop 36 0 ⟨[(1, AV.pv (PV.int IntKind.i64 n)), (2, AV.ptr 0 0), (5, AV.pv (PV.int IntKind.i64 i))], [(0, Blk.box (List.map AV.pv (T.Rx.enc x)))], 1⟩ = some (law0_Rx_L0_enc x r) := by
  refine law0_Rx_L0.partial_correctness (fun p r => O.loop 36 0 ⟨[(1, AV.pv (PV.int IntKind.i64 p.1)), (2, AV.ptr 0 0), (5, AV.pv (PV.int IntKind.i64 p.2.1))], [(0, Blk.box (List.map AV.pv (T.Rx.enc p.2.2)))], 1⟩ = some (law0_Rx_L0_enc p.2.2 r)) ?_ (n, i, x) r h
  clear h r n i x
  intro law0_Rx_L0 ih5
  rintro ⟨n, i, x⟩ r h
  dsimp only at h ⊢
  by_cases h1 : (decide (i < (x.rows.l.length : Int))) = true
  rw [if_pos h1] at h
  obtain ⟨x3, h2, h⟩ := Option.bind_eq_some_iff.1 h
  have f1 := geti_nat h2 IntKind.i64
  have f2 := geti_map T.Row.enc h2
  try simp only [T.Row.enc_eq, encx.down, Nat.zero_add, Nat.reduceAdd] at f2
  have f3 := geti_szcT h2 2
  by_cases h4 : (decide ((x3.frm.length : Int) ≥ n)) = true
  rw [if_pos h4] at h
  cases h
  show _ = some (law0_Rx_L0_enc _ (.inl _))
  dsimp only [law0_Rx_L0_enc]
  clear ih5
  rotate_left
  rw [if_neg h4] at h; replace h4 := Bool.eq_false_iff.2 h4
  by_cases h5 : (decide ((x3.to.length : Int) ≥ n)) = true
  rw [if_pos h5] at h
  cases h
  show _ = some (law0_Rx_L0_enc _ (.inl _))
  dsimp only [law0_Rx_L0_enc]
  clear ih5
  rotate_left
  rw [if_neg h5] at h; replace h5 := Bool.eq_false_iff.2 h5
  have f4 := ih5 _ _ h
  try dsimp only at f4
  try simp only [T.Rx.enc_eq, encx.down, Nat.zero_add, Nat.reduceAdd] at f4
  clear h
  clear ih5
  rotate_left
  rw [if_neg h1] at h; replace h1 := Bool.eq_false_iff.2 h1
  cases h
  show _ = some (law0_Rx_L0_enc _ (.inr _))
  dsimp only [law0_Rx_L0_enc]
  clear ih5
  rotate_left
  all_goals
    refine omega_L fn36 (by rfl) ?_
    simp (disch := first | assumption | rfl | exact Sure.mk (by kernel_rfl)) only [go_sem, coreG.down, tab.down, ↓reduceIte, Nat.reduceLeDiff, Nat.reduceEqDiff, Nat.reduceLT, Nat.reduceAdd, Nat.reduceSub, Nat.reduceMul, reduceCtorEq, Nat.reducePow, sp36_0, sp36_2, T.Rx.enc_eq, *]
set_option maxHeartbeats 4000000 in
theorem law0_Rx_all : (∀ p r, law0_Rx p = some r → O.call 36 [AV.pv (PV.agg (T.Rx.enc p.1)), AV.pv (PV.int IntKind.i64 p.2)] [] = some (AV.pv (PV.int IntKind.i64 r), [])) ∧ (∀ p r, law0_Rx_L2 p = some r → O.loop 36 2 ⟨[(1, AV.pv (PV.int IntKind.i64 p.1)), (2, AV.ptr 0 0), (6, AV.pv (PV.int IntKind.i64 p.2.1))], [(0, Blk.box (List.map AV.pv (T.Rx.enc p.2.2)))], 1⟩ = some (Ex.normal, ⟨[(1, AV.pv (PV.int IntKind.i64 r))], [(0, Blk.box (List.map AV.pv (T.Rx.enc p.2.2)))], 1⟩)) := by
  refine law0_Rx.mutual_partial_correctness (fun p r => O.call 36 [AV.pv (PV.agg (T.Rx.enc p.1)), AV.pv (PV.int IntKind.i64 p.2)] [] = some (AV.pv (PV.int IntKind.i64 r), [])) (fun p r => O.loop 36 2 ⟨[(1, AV.pv (PV.int IntKind.i64 p.1)), (2, AV.ptr 0 0), (6, AV.pv (PV.int IntKind.i64 p.2.1))], [(0, Blk.box (List.map AV.pv (T.Rx.enc p.2.2)))], 1⟩ = some (Ex.normal, ⟨[(1, AV.pv (PV.int IntKind.i64 r))], [(0, Blk.box (List.map AV.pv (T.Rx.enc p.2.2)))], 1⟩)) ?_ ?_
  · intro law0_Rx_L2 ih6
    rintro ⟨x, n⟩ r h
    dsimp only at h ⊢
    by_cases g1 : ((decide ((x.char.length : Int) ≥ n)) || ((decide ((x.rows.l.length : Int) ≥ n)) || (decide ((x.kids.l.length : Int) ≥ n)))) = true
    focus
      rw [if_pos g1] at h
      rcases (by intro u0 u1 u2; cases u0 <;> cases u1 <;> cases u2 <;> simp [Dum] : ∀ u0 u1 u2 : Bool, (u0 || (u1 || u2)) = true → (u0 = true ∧ Dum ∧ Dum) ∨ (u0 = false ∧ u1 = true ∧ Dum) ∨ (u0 = false ∧ u1 = false ∧ u2 = true)) (decide ((x.char.length : Int) ≥ n)) (decide ((x.rows.l.length : Int) ≥ n)) (decide ((x.kids.l.length : Int) ≥ n)) g1 with ⟨h1, h2, h3⟩ | ⟨h1, h2, h3⟩ | ⟨h1, h2, h3⟩
      clear g1
      all_goals
        cases h
        clear ih6
        rotate_left
    rotate_left 3
    rw [if_neg g1] at h; replace g1 := Bool.eq_false_iff.2 g1
    rcases (by intro u0 u1 u2; cases u0 <;> cases u1 <;> cases u2 <;> simp [Dum] : ∀ u0 u1 u2 : Bool, (u0 || (u1 || u2)) = false → (u0 = false ∧ u1 = false ∧ u2 = false)) (decide ((x.char.length : Int) ≥ n)) (decide ((x.rows.l.length : Int) ≥ n)) (decide ((x.kids.l.length : Int) ≥ n)) g1 with ⟨h1, h2, h3⟩
    clear g1
    obtain ⟨v5, h4, h⟩ := Option.bind_eq_some_iff.1 h
    have f2 := law0_Rx_L0_ok h4
    try simp only [T.Rx.enc_eq, encx.down, Nat.zero_add, Nat.reduceAdd] at f2
    rcases v5 with y6 | y7
    dsimp only at h
    simp only [law0_Rx_L0_enc, T.Rx.enc_eq, encx.down, Nat.zero_add, Nat.reduceAdd] at f2
    cases h
    clear ih6
    rotate_left
    dsimp only at h
    simp only [law0_Rx_L0_enc, T.Rx.enc_eq, encx.down, Nat.zero_add, Nat.reduceAdd] at f2
    obtain ⟨v9, h8, h⟩ := Option.bind_eq_some_iff.1 h
    have f3 := ih6 _ _ h8
    try dsimp only at f3
    try simp only [T.Rx.enc_eq, encx.down, Nat.zero_add, Nat.reduceAdd] at f3
    cases h
    clear ih6
    rotate_left
    all_goals
      refine omega_F rfl fn36 (by rfl) (by rfl) rfl ?_
      simp (disch := first | assumption | rfl | exact Sure.mk (by kernel_rfl)) only [go_sem, coreG.down, tab.down, ↓reduceIte, Nat.reduceLeDiff, Nat.reduceEqDiff, Nat.reduceLT, Nat.reduceAdd, Nat.reduceSub, Nat.reduceMul, reduceCtorEq, Nat.reducePow, sp36_0, sp36_2, T.Rx.enc_eq, *]
  · intro law0_Rx law0_Rx_L2 ih4 ih6
    rintro ⟨n, i, x⟩ r h
    dsimp only at h ⊢
    by_cases g1 : ((decide (i < (x.kids.l.length : Int))) && (decide (n ≥ (0 : Int)))) = true
    rw [if_pos g1] at h
    rcases (by intro u0 u1; cases u0 <;> cases u1 <;> simp [Dum] : ∀ u0 u1 : Bool, (u0 && u1) = true → (u0 = true ∧ u1 = true)) (decide (i < (x.kids.l.length : Int))) (decide (n ≥ (0 : Int))) g1 with ⟨h1, h2⟩
    clear g1
    obtain ⟨x4, h3, h⟩ := Option.bind_eq_some_iff.1 h
    have f2 := geti_nat h3 IntKind.i64
    have f3 := geti_map T.Rx.enc h3
    try simp only [T.Rx.enc_eq, encx.down, Nat.zero_add, Nat.reduceAdd] at f3
    have f4 := geti_szcT h3 8
    obtain ⟨v6, h5, h⟩ := Option.bind_eq_some_iff.1 h
    have f5 := ih4 _ _ h5
    try dsimp only at f5
    try simp only [T.Rx.enc_eq, encx.down, Nat.zero_add, Nat.reduceAdd] at f5
    have f6 := ih6 _ _ h
    try dsimp only at f6
    try simp only [T.Rx.enc_eq, encx.down, Nat.zero_add, Nat.reduceAdd] at f6
    clear h
    clear ih4 ih6
    rotate_left
    focus
      rw [if_neg g1] at h; replace g1 := Bool.eq_false_iff.2 g1
      rcases (by intro u0 u1; cases u0 <;> cases u1 <;> simp [Dum] : ∀ u0 u1 : Bool, (u0 && u1) = false → (u0 = false ∧ Dum) ∨ (u0 = true ∧ u1 = false)) (decide (i < (x.kids.l.length : Int))) (decide (n ≥ (0 : Int))) g1 with ⟨h1, h2⟩ | ⟨h1, h2⟩
      clear g1
      all_goals
        cases h
        clear ih4 ih6
        rotate_left
    rotate_left 2
    all_goals
      refine omega_L fn36 (by rfl) ?_
      simp (disch := first | assumption | rfl | exact Sure.mk (by kernel_rfl)) only [go_sem, coreG.down, tab.down, ↓reduceIte, Nat.reduceLeDiff, Nat.reduceEqDiff, Nat.reduceLT, Nat.reduceAdd, Nat.reduceSub, Nat.reduceMul, reduceCtorEq, Nat.reducePow, sp36_0, sp36_2, T.Rx.enc_eq, *]
set_option maxHeartbeats 4000000 in
theorem law0_Rx_ok {x : T.Rx} {n : Int} {r : (Int)} (h : law0_Rx (x, n) = some r) :
    O.call 36 [AV.pv (PV.agg (T.Rx.enc x)), AV.pv (PV.int IntKind.i64 n)] [] = some (AV.pv (PV.int IntKind.i64 r), []) := law0_Rx_all.1 (x, n) r h
set_option maxHeartbeats 4000000 in
theorem law0_Rx_L2_ok {n : Int} {i : Int} {x : T.Rx} {r : (Int)} (h : law0_Rx_L2 (n, i, x) = some r) :
    O.loop 36 2 ⟨[(1, AV.pv (PV.int IntKind.i64 n)), (2, AV.ptr 0 0), (6, AV.pv (PV.int IntKind.i64 i))], [(0, Blk.box (List.map AV.pv (T.Rx.enc x)))], 1⟩ = some (Ex.normal, ⟨[(1, AV.pv (PV.int IntKind.i64 r))], [(0, Blk.box (List.map AV.pv (T.Rx.enc x)))], 1⟩) := law0_Rx_all.2 (n, i, x) r h
def law0_FmtsLeft_L0_enc : ((Int × Int) ⊕ (Int)) → Ex × St
  | .inl y => (Ex.ret, ⟨[(1, AV.pv (PV.int IntKind.i64 y.1)), (4, AV.pv (PV.int IntKind.i64 y.2))], [], 0⟩)
  | .inr y => (Ex.normal, ⟨[(1, AV.pv (PV.int IntKind.i64 y)), (4, AV.undef)], [], 0⟩)
set_option maxHeartbeats 4000000 in
theorem law0_FmtsLeft_L0_ok {fs : (Sl T.Fmt)} {n : Int} {i : Int} {r : ((Int × Int) ⊕ (Int))} (h : law0_FmtsLeft_L0 (fs, n, i) = some r) :
    O.loop 37 0 ⟨[(0, AV.pv (PV.sl fs.nil (szc 5 fs.l) (List.map T.Fmt.enc fs.l))), (1, AV.pv (PV.int IntKind.i64 n)), (5, AV.pv (PV.int IntKind.i64 i))], [], 0⟩ = some (law0_FmtsLeft_L0_enc r) := by
  refine law0_FmtsLeft_L0.partial_correctness (fun p r => O.loop 37 0 ⟨[(0, AV.pv (PV.sl p.1.nil (szc 5 p.1.l) (List.map T.Fmt.enc p.1.l))), (1, AV.pv (PV.int IntKind.i64 p.2.1)), (5, AV.pv (PV.int IntKind.i64 p.2.2))], [], 0⟩ = some (law0_FmtsLeft_L0_enc r)) ?_ (fs, n, i) r h
  clear h r fs n i
  intro law0_FmtsLeft_L0 ih8
  rintro ⟨fs, n, i⟩ r h
  dsimp only at h ⊢
  by_cases h1 : (decide (i < (fs.l.length : Int))) = true
  rw [if_pos h1] at h
  obtain ⟨x3, h2, h⟩ := Option.bind_eq_some_iff.1 h
  have f1 := geti_nat h2 IntKind.i64
  have f2 := geti_map T.Fmt.enc h2
  try simp only [T.Fmt.enc_eq, encx.down, Nat.zero_add, Nat.reduceAdd] at f2
  have f3 := geti_szcT h2 5
  by_cases h4 : (decide ((x3.thn.length : Int) ≥ n)) = true
  rw [if_pos h4] at h
  cases h
  show _ = some (law0_FmtsLeft_L0_enc (.inl _))
  dsimp only [law0_FmtsLeft_L0_enc]
  clear ih8
  rotate_left
  rw [if_neg h4] at h; replace h4 := Bool.eq_false_iff.2 h4
  by_cases h5 : (decide ((x3.els.length : Int) ≥ n)) = true
  rw [if_pos h5] at h
  cases h
  show _ = some (law0_FmtsLeft_L0_enc (.inl _))
  dsimp only [law0_FmtsLeft_L0_enc]
  clear ih8
  rotate_left
  rw [if_neg h5] at h; replace h5 := Bool.eq_false_iff.2 h5
  have f4 := ih8 _ _ h
  try dsimp only at f4
  try simp only [T.Fmt.enc_eq, encx.down, Nat.zero_add, Nat.reduceAdd] at f4
  clear h
  clear ih8
  rotate_left
  rw [if_neg h1] at h; replace h1 := Bool.eq_false_iff.2 h1
  cases h
  show _ = some (law0_FmtsLeft_L0_enc (.inr _))
  dsimp only [law0_FmtsLeft_L0_enc]
  clear ih8
  rotate_left
  all_goals
    refine omega_L fn37 (by rfl) ?_
    simp (disch := first | assumption | rfl | exact Sure.mk (by kernel_rfl)) only [go_sem, coreG.down, tab.down, ↓reduceIte, Nat.reduceLeDiff, Nat.reduceEqDiff, Nat.reduceLT, Nat.reduceAdd, Nat.reduceSub, Nat.reduceMul, reduceCtorEq, Nat.reducePow, sp37_0, T.Fmt.enc_eq, *]
set_option maxHeartbeats 4000000 in
theorem law0_FmtsLeft_ok {fs : (Sl T.Fmt)} {n : Int} {r : (Int)} (h : law0_FmtsLeft fs n = some r) :
    O.call 37 [AV.pv (PV.sl fs.nil (szc 5 fs.l) (List.map T.Fmt.enc fs.l)), AV.pv (PV.int IntKind.i64 n)] [] = some (AV.pv (PV.int IntKind.i64 r), []) := by
  unfold law0_FmtsLeft at h
  obtain ⟨v2, h1, h⟩ := Option.bind_eq_some_iff.1 h
  have f1 := law0_FmtsLeft_L0_ok h1
  try simp only [T.Fmt.enc_eq, encx.down, Nat.zero_add, Nat.reduceAdd] at f1
  rcases v2 with y3 | y4
  dsimp only at h
  simp only [law0_FmtsLeft_L0_enc, T.Fmt.enc_eq, encx.down, Nat.zero_add, Nat.reduceAdd] at f1
  cases h
  rotate_left
  dsimp only at h
  simp only [law0_FmtsLeft_L0_enc, T.Fmt.enc_eq, encx.down, Nat.zero_add, Nat.reduceAdd] at f1
  cases h
  rotate_left
  all_goals
    refine omega_F rfl fn37 (by rfl) (by rfl) rfl ?_
    simp (disch := first | assumption | rfl | exact Sure.mk (by kernel_rfl)) only [go_sem, coreG.down, tab.down, ↓reduceIte, Nat.reduceLeDiff, Nat.reduceEqDiff, Nat.reduceLT, Nat.reduceAdd, Nat.reduceSub, Nat.reduceMul, reduceCtorEq, Nat.reducePow, sp37_0, T.Fmt.enc_eq, *]
set_option maxHeartbeats 4000000 in
theorem law0_Form_ok {f : T.Form} {n : Int} {r : (Int)} (h : law0_Form f n = some r) :
    O.call 22 [AV.pv (PV.agg (T.Form.enc f)), AV.pv (PV.int IntKind.i64 n)] [] = some (AV.pv (PV.int IntKind.i64 r), []) := by
  unfold law0_Form at h
  obtain ⟨v2, h1, h⟩ := Option.bind_eq_some_iff.1 h
  have f1 := law0_Rx_ok h1
  try simp only [T.Rx.enc_eq, encx.down, Nat.zero_add, Nat.reduceAdd] at f1
  by_cases h3 : (decide (v2 < (0 : Int))) = true
  rw [if_pos h3] at h
  cases h
  rotate_left
  rw [if_neg h3] at h; replace h3 := Bool.eq_false_iff.2 h3
  obtain ⟨v5, h4, h⟩ := Option.bind_eq_some_iff.1 h
  have f2 := law0_FmtsLeft_ok h4
  try simp only [T.Fmt.enc_eq, encx.down, Nat.zero_add, Nat.reduceAdd] at f2
  cases h
  rotate_left
  all_goals
    refine omega_F rfl fn22 (by rfl) (by rfl) rfl ?_
    simp (disch := first | assumption | rfl | exact Sure.mk (by kernel_rfl)) only [go_sem, coreG.down, tab.down, ↓reduceIte, Nat.reduceLeDiff, Nat.reduceEqDiff, Nat.reduceLT, Nat.reduceAdd, Nat.reduceSub, Nat.reduceMul, reduceCtorEq, Nat.reducePow, T.Form.enc_eq, *]
def law0_Snips_L2_enc (l : (Sl T.Snip)) (i : Int) : ((Int × Int) ⊕ (Int)) → Ex × St
  | .inl y => (Ex.ret, ⟨[(0, AV.pv (PV.sl l.nil (szc 18 l.l) (List.map T.Snip.enc l.l))), (1, AV.pv (PV.int IntKind.i64 y.1)), (4, AV.pv (PV.int IntKind.i64 y.2)), (5, AV.pv (PV.int IntKind.i64 i))], [], 0⟩)
  | .inr y => (Ex.normal, ⟨[(0, AV.pv (PV.sl l.nil (szc 18 l.l) (List.map T.Snip.enc l.l))), (1, AV.pv (PV.int IntKind.i64 y)), (4, AV.undef), (5, AV.pv (PV.int IntKind.i64 i))], [], 0⟩)
set_option maxHeartbeats 4000000 in
theorem law0_Snips_L2_ok {l : (Sl T.Snip)} {n : Int} {i : Int} {k : Int} {r : ((Int × Int) ⊕ (Int))} (h : law0_Snips_L2 (l, n, i, k) = some r) :
    O.loop 8 2 ⟨[(0, AV.pv (PV.sl l.nil (szc 18 l.l) (List.map T.Snip.enc l.l))), (1, AV.pv (PV.int IntKind.i64 n)), (5, AV.pv (PV.int IntKind.i64 i)), (6, AV.pv (PV.int IntKind.i64 k))], [], 0⟩ = some (law0_Snips_L2_enc l i r) := by
  refine law0_Snips_L2.partial_correctness (fun p r => O.loop 8 2 ⟨[(0, AV.pv (PV.sl p.1.nil (szc 18 p.1.l) (List.map T.Snip.enc p.1.l))), (1, AV.pv (PV.int IntKind.i64 p.2.1)), (5, AV.pv (PV.int IntKind.i64 p.2.2.1)), (6, AV.pv (PV.int IntKind.i64 p.2.2.2))], [], 0⟩ = some (law0_Snips_L2_enc p.1 p.2.2.1 r)) ?_ (l, n, i, k) r h
  clear h r l n i k
  intro law0_Snips_L2 ih9
  rintro ⟨l, n, i, k⟩ r h
  dsimp only at h ⊢
  obtain ⟨x2, h1, h⟩ := Option.bind_eq_some_iff.1 h
  have f1 := geti_nat h1 IntKind.i64
  have f2 := geti_map T.Snip.enc h1
  try simp only [T.Snip.enc_eq, encx.down, Nat.zero_add, Nat.reduceAdd] at f2
  have f3 := geti_szcT h1 18
  by_cases h3 : (decide (k < (x2.opts.l.length : Int))) = true
  rw [if_pos h3] at h
  obtain ⟨x5, h4, h⟩ := Option.bind_eq_some_iff.1 h
  have f4 := geti_nat h4 IntKind.i64
  have f5 := geti_map strE h4
  try simp only [strE, encx.down, Nat.zero_add, Nat.reduceAdd] at f5
  have f6 := geti_szcT h4 1
  by_cases h6 : (decide ((x5.length : Int) ≥ n)) = true
  rw [if_pos h6] at h
  cases h
  show _ = some (law0_Snips_L2_enc _ _ (.inl _))
  dsimp only [law0_Snips_L2_enc]
  clear ih9
  rotate_left
  rw [if_neg h6] at h; replace h6 := Bool.eq_false_iff.2 h6
  have f7 := ih9 _ _ h
  try dsimp only at f7
  try simp only [T.Snip.enc_eq, encx.down, Nat.zero_add, Nat.reduceAdd] at f7
  clear h
  clear ih9
  rotate_left
  rw [if_neg h3] at h; replace h3 := Bool.eq_false_iff.2 h3
  cases h
  show _ = some (law0_Snips_L2_enc _ _ (.inr _))
  dsimp only [law0_Snips_L2_enc]
  clear ih9
  rotate_left
  all_goals
    refine omega_L fn8 (by rfl) ?_
    simp (disch := first | assumption | rfl | exact Sure.mk (by kernel_rfl)) only [go_sem, coreG.down, tab.down, ↓reduceIte, Nat.reduceLeDiff, Nat.reduceEqDiff, Nat.reduceLT, Nat.reduceAdd, Nat.reduceSub, Nat.reduceMul, reduceCtorEq, Nat.reducePow, sp8_0, sp8_2, T.Snip.enc_eq, *]
def law0_Snips_L0_enc : ((Int × Int) ⊕ (Int)) → Ex × St
  | .inl y => (Ex.ret, ⟨[(1, AV.pv (PV.int IntKind.i64 y.1)), (4, AV.pv (PV.int IntKind.i64 y.2))], [], 0⟩)
  | .inr y => (Ex.normal, ⟨[(1, AV.pv (PV.int IntKind.i64 y)), (4, AV.undef)], [], 0⟩)
set_option maxHeartbeats 4000000 in
theorem law0_Snips_all : (∀ p r, law0_Snips p = some r → O.call 8 [AV.pv (PV.sl p.1.nil (szc 18 p.1.l) (List.map T.Snip.enc p.1.l)), AV.pv (PV.int IntKind.i64 p.2)] [] = some (AV.pv (PV.int IntKind.i64 r), [])) ∧ (∀ p r, law0_Snips_L0 p = some r → O.loop 8 0 ⟨[(0, AV.pv (PV.sl p.1.nil (szc 18 p.1.l) (List.map T.Snip.enc p.1.l))), (1, AV.pv (PV.int IntKind.i64 p.2.1)), (5, AV.pv (PV.int IntKind.i64 p.2.2))], [], 0⟩ = some (law0_Snips_L0_enc r)) := by
  refine law0_Snips.mutual_partial_correctness (fun p r => O.call 8 [AV.pv (PV.sl p.1.nil (szc 18 p.1.l) (List.map T.Snip.enc p.1.l)), AV.pv (PV.int IntKind.i64 p.2)] [] = some (AV.pv (PV.int IntKind.i64 r), [])) (fun p r => O.loop 8 0 ⟨[(0, AV.pv (PV.sl p.1.nil (szc 18 p.1.l) (List.map T.Snip.enc p.1.l))), (1, AV.pv (PV.int IntKind.i64 p.2.1)), (5, AV.pv (PV.int IntKind.i64 p.2.2))], [], 0⟩ = some (law0_Snips_L0_enc r)) ?_ ?_
  · intro law0_Snips_L0 ih2
    rintro ⟨l, n⟩ r h
    dsimp only at h ⊢
    obtain ⟨v2, h1, h⟩ := Option.bind_eq_some_iff.1 h
    have f1 := ih2 _ _ h1
    try dsimp only at f1
    try simp only [T.Snip.enc_eq, encx.down, Nat.zero_add, Nat.reduceAdd] at f1
    rcases v2 with y3 | y4
    dsimp only at h
    simp only [law0_Snips_L0_enc, T.Snip.enc_eq, encx.down, Nat.zero_add, Nat.reduceAdd] at f1
    cases h
    clear ih2
    rotate_left
    dsimp only at h
    simp only [law0_Snips_L0_enc, T.Snip.enc_eq, encx.down, Nat.zero_add, Nat.reduceAdd] at f1
    cases h
    clear ih2
    rotate_left
    all_goals
      refine omega_F rfl fn8 (by rfl) (by rfl) rfl ?_
      simp (disch := first | assumption | rfl | exact Sure.mk (by kernel_rfl)) only [go_sem, coreG.down, tab.down, ↓reduceIte, Nat.reduceLeDiff, Nat.reduceEqDiff, Nat.reduceLT, Nat.reduceAdd, Nat.reduceSub, Nat.reduceMul, reduceCtorEq, Nat.reducePow, sp8_0, sp8_2, T.Snip.enc_eq, *]
  · intro law0_Snips law0_Snips_L0 ih1 ih2
    rintro ⟨l, n, i⟩ r h
    dsimp only at h ⊢
    by_cases g1 : ((decide (i < (l.l.length : Int))) && (decide (n ≥ (0 : Int)))) = true
    rw [if_pos g1] at h
    rcases (by intro u0 u1; cases u0 <;> cases u1 <;> simp [Dum] : ∀ u0 u1 : Bool, (u0 && u1) = true → (u0 = true ∧ u1 = true)) (decide (i < (l.l.length : Int))) (decide (n ≥ (0 : Int))) g1 with ⟨h1, h2⟩
    clear g1
    obtain ⟨x4, h3, h⟩ := Option.bind_eq_some_iff.1 h
    have f2 := geti_nat h3 IntKind.i64
    have f3 := geti_map T.Snip.enc h3
    try simp only [T.Snip.enc_eq, encx.down, Nat.zero_add, Nat.reduceAdd] at f3
    have f4 := geti_szcT h3 18
    by_cases h5 : (decide ((x4.text.length : Int) ≥ n)) = true
    rw [if_pos h5] at h
    cases h
    show _ = some (law0_Snips_L0_enc (.inl _))
    dsimp only [law0_Snips_L0_enc]
    clear ih1 ih2
    rotate_left
    rw [if_neg h5] at h; replace h5 := Bool.eq_false_iff.2 h5
    by_cases h6 : (decide ((x4.opts.l.length : Int) ≥ n)) = true
    rw [if_pos h6] at h
    cases h
    show _ = some (law0_Snips_L0_enc (.inl _))
    dsimp only [law0_Snips_L0_enc]
    clear ih1 ih2
    rotate_left
    rw [if_neg h6] at h; replace h6 := Bool.eq_false_iff.2 h6
    obtain ⟨v8, h7, h⟩ := Option.bind_eq_some_iff.1 h
    have f5 := law0_Form_ok h7
    try simp only [T.Form.enc_eq, encx.down, Nat.zero_add, Nat.reduceAdd] at f5
    obtain ⟨v10, h9, h⟩ := Option.bind_eq_some_iff.1 h
    have f6 := law0_Snips_L2_ok h9
    try simp only [T.Snip.enc_eq, encx.down, Nat.zero_add, Nat.reduceAdd] at f6
    rcases v10 with y11 | y12
    dsimp only at h
    simp only [law0_Snips_L2_enc, T.Snip.enc_eq, encx.down, Nat.zero_add, Nat.reduceAdd] at f6
    cases h
    show _ = some (law0_Snips_L0_enc (.inl _))
    dsimp only [law0_Snips_L0_enc]
    clear ih1 ih2
    rotate_left
    dsimp only at h
    simp only [law0_Snips_L2_enc, T.Snip.enc_eq, encx.down, Nat.zero_add, Nat.reduceAdd] at f6
    by_cases h13 : (decide (y12 ≥ (0 : Int))) = true
    rw [if_pos h13] at h
    obtain ⟨v15, h14, h⟩ := Option.bind_eq_some_iff.1 h
    have f7 := ih1 _ _ h14
    try dsimp only at f7
    try simp only [T.Snip.enc_eq, encx.down, Nat.zero_add, Nat.reduceAdd] at f7
    have f8 := ih2 _ _ h
    try dsimp only at f8
    try simp only [T.Snip.enc_eq, encx.down, Nat.zero_add, Nat.reduceAdd] at f8
    clear h
    clear ih1 ih2
    rotate_left
    rw [if_neg h13] at h; replace h13 := Bool.eq_false_iff.2 h13
    have f9 := ih2 _ _ h
    try dsimp only at f9
    try simp only [T.Snip.enc_eq, encx.down, Nat.zero_add, Nat.reduceAdd] at f9
    clear h
    clear ih1 ih2
    rotate_left
    focus
      rw [if_neg g1] at h; replace g1 := Bool.eq_false_iff.2 g1
      rcases (by intro u0 u1; cases u0 <;> cases u1 <;> simp [Dum] : ∀ u0 u1 : Bool, (u0 && u1) = false → (u0 = false ∧ Dum) ∨ (u0 = true ∧ u1 = false)) (decide (i < (l.l.length : Int))) (decide (n ≥ (0 : Int))) g1 with ⟨h1, h2⟩ | ⟨h1, h2⟩
      clear g1
      all_goals
        cases h
        show _ = some (law0_Snips_L0_enc (.inr _))
        dsimp only [law0_Snips_L0_enc]
        clear ih1 ih2
        rotate_left
    rotate_left 2
    all_goals
      refine omega_L fn8 (by rfl) ?_
      simp (disch := first | assumption | rfl | exact Sure.mk (by kernel_rfl)) only [go_sem, coreG.down, tab.down, ↓reduceIte, Nat.reduceLeDiff, Nat.reduceEqDiff, Nat.reduceLT, Nat.reduceAdd, Nat.reduceSub, Nat.reduceMul, reduceCtorEq, Nat.reducePow, sp8_0, sp8_2, T.Snip.enc_eq, *]
set_option maxHeartbeats 4000000 in
theorem law0_Snips_ok {l : (Sl T.Snip)} {n : Int} {r : (Int)} (h : law0_Snips (l, n) = some r) :
    O.call 8 [AV.pv (PV.sl l.nil (szc 18 l.l) (List.map T.Snip.enc l.l)), AV.pv (PV.int IntKind.i64 n)] [] = some (AV.pv (PV.int IntKind.i64 r), []) := law0_Snips_all.1 (l, n) r h
set_option maxHeartbeats 4000000 in
theorem law0_Snips_L0_ok {l : (Sl T.Snip)} {n : Int} {i : Int} {r : ((Int × Int) ⊕ (Int))} (h : law0_Snips_L0 (l, n, i) = some r) :
    O.loop 8 0 ⟨[(0, AV.pv (PV.sl l.nil (szc 18 l.l) (List.map T.Snip.enc l.l))), (1, AV.pv (PV.int IntKind.i64 n)), (5, AV.pv (PV.int IntKind.i64 i))], [], 0⟩ = some (law0_Snips_L0_enc r) := law0_Snips_all.2 (l, n, i) r h
set_option maxHeartbeats 4000000 in
theorem snode_numbers_all : (∀ p r, snode_numbers p = some r → O.call 33 [AV.pv (PV.sl p.1.nil (szc 18 p.1.l) (List.map T.Snip.enc p.1.l)), AV.map 0] [(0, Blk.map (List.map entE p.2.es) p.2.clock)] = some (AV.tup [], [(0, Blk.map (List.map entE r.es) r.clock)])) ∧ (∀ p r, snode_numbers_L0 p = some r → O.loop 33 0 ⟨[(1, AV.map 0), (6, AV.pv (PV.sl p.1.nil (szc 18 p.1.l) (List.map T.Snip.enc p.1.l))), (7, AV.pv (PV.int IntKind.i64 p.2.1)), (8, AV.pv (PV.int IntKind.i64 p.2.2.1))], [(0, Blk.map (List.map entE p.2.2.2.es) p.2.2.2.clock)], 1⟩ = some (Ex.normal, ⟨[], [(0, Blk.map (List.map entE r.es) r.clock)], 1⟩)) := by
  refine snode_numbers.mutual_partial_correctness (fun p r => O.call 33 [AV.pv (PV.sl p.1.nil (szc 18 p.1.l) (List.map T.Snip.enc p.1.l)), AV.map 0] [(0, Blk.map (List.map entE p.2.es) p.2.clock)] = some (AV.tup [], [(0, Blk.map (List.map entE r.es) r.clock)])) (fun p r => O.loop 33 0 ⟨[(1, AV.map 0), (6, AV.pv (PV.sl p.1.nil (szc 18 p.1.l) (List.map T.Snip.enc p.1.l))), (7, AV.pv (PV.int IntKind.i64 p.2.1)), (8, AV.pv (PV.int IntKind.i64 p.2.2.1))], [(0, Blk.map (List.map entE p.2.2.2.es) p.2.2.2.clock)], 1⟩ = some (Ex.normal, ⟨[], [(0, Blk.map (List.map entE r.es) r.clock)], 1⟩)) ?_ ?_
  · intro snode_numbers_L0 ih13
    rintro ⟨l, m⟩ r h
    dsimp only at h ⊢
    obtain ⟨v2, h1, h⟩ := Option.bind_eq_some_iff.1 h
    have f1 := ih13 _ _ h1
    try dsimp only at f1
    try simp only [T.Snip.enc_eq, encx.down, Nat.zero_add, Nat.reduceAdd] at f1
    cases h
    clear ih13
    rotate_left
    all_goals
      refine omega_F rfl fn33 (by rfl) (by rfl) rfl ?_
      simp (disch := first | assumption | rfl | exact Sure.mk (by kernel_rfl)) only [go_sem, coreG.down, tab.down, ↓reduceIte, Nat.reduceLeDiff, Nat.reduceEqDiff, Nat.reduceLT, Nat.reduceAdd, Nat.reduceSub, Nat.reduceMul, reduceCtorEq, Nat.reducePow, sp33_0, T.Snip.enc_eq, *]
  · intro snode_numbers snode_numbers_L0 ih12 ih13
    rintro ⟨t6, t7, t8, in_⟩ r h
    dsimp only at h ⊢
    by_cases h1 : (decide (t8 < t7)) = true
    rw [if_pos h1] at h
    obtain ⟨x3, h2, h⟩ := Option.bind_eq_some_iff.1 h
    have f1 := geti_nat h2 IntKind.i64
    have f2 := geti_map T.Snip.enc h2
    try simp only [T.Snip.enc_eq, encx.down, Nat.zero_add, Nat.reduceAdd] at f2
    have f3 := geti_szcT h2 18
    by_cases g4 : ((x3.kind == (1 : Int)) || (x3.kind == (2 : Int))) = true
    focus
      rw [if_pos g4] at h
      rcases (by intro u0 u1; cases u0 <;> cases u1 <;> simp [Dum] : ∀ u0 u1 : Bool, (u0 || u1) = true → (u0 = true ∧ Dum) ∨ (u0 = false ∧ u1 = true)) (x3.kind == (1 : Int)) (x3.kind == (2 : Int)) g4 with ⟨h4, h7⟩ | ⟨h4, h7⟩
      clear g4
      all_goals
        have f5 := fun b => mii_get b in_ x3.n
        try simp only [encx.down, Nat.zero_add, Nat.reduceAdd] at f5
        have f6 := mii_put 0 in_ x3.n (IntKind.i64.wrap ((mget in_ x3.n) + (1 : Int)))
        try simp only [encx.down, Nat.zero_add, Nat.reduceAdd] at f6
        obtain ⟨v6, h5, h⟩ := Option.bind_eq_some_iff.1 h
        have f7 := ih12 _ _ h5
        try dsimp only at f7
        try simp only [T.Snip.enc_eq, encx.down, Nat.zero_add, Nat.reduceAdd] at f7
        have f8 := ih13 _ _ h
        try dsimp only at f8
        try simp only [T.Snip.enc_eq, encx.down, Nat.zero_add, Nat.reduceAdd] at f8
        clear h
        clear ih12 ih13
        rotate_left
    rotate_left 2
    rw [if_neg g4] at h; replace g4 := Bool.eq_false_iff.2 g4
    rcases (by intro u0 u1; cases u0 <;> cases u1 <;> simp [Dum] : ∀ u0 u1 : Bool, (u0 || u1) = false → (u0 = false ∧ u1 = false)) (x3.kind == (1 : Int)) (x3.kind == (2 : Int)) g4 with ⟨h4, h7⟩
    clear g4
    obtain ⟨v11, h10, h⟩ := Option.bind_eq_some_iff.1 h
    have f9 := ih12 _ _ h10
    try dsimp only at f9
    try simp only [T.Snip.enc_eq, encx.down, Nat.zero_add, Nat.reduceAdd] at f9
    have f10 := ih13 _ _ h
    try dsimp only at f10
    try simp only [T.Snip.enc_eq, encx.down, Nat.zero_add, Nat.reduceAdd] at f10
    clear h
    clear ih12 ih13
    rotate_left
    rw [if_neg h1] at h; replace h1 := Bool.eq_false_iff.2 h1
    cases h
    clear ih12 ih13
    rotate_left
    all_goals
      refine omega_L fn33 (by rfl) ?_
      simp (disch := first | assumption | rfl | exact Sure.mk (by kernel_rfl)) only [go_sem, coreG.down, tab.down, ↓reduceIte, Nat.reduceLeDiff, Nat.reduceEqDiff, Nat.reduceLT, Nat.reduceAdd, Nat.reduceSub, Nat.reduceMul, reduceCtorEq, Nat.reducePow, sp33_0, T.Snip.enc_eq, *]
set_option maxHeartbeats 4000000 in
theorem snode_numbers_ok {l : (Sl T.Snip)} {m : MapII} {r : (MapII)} (h : snode_numbers (l, m) = some r) :
    O.call 33 [AV.pv (PV.sl l.nil (szc 18 l.l) (List.map T.Snip.enc l.l)), AV.map 0] [(0, Blk.map (List.map entE m.es) m.clock)] = some (AV.tup [], [(0, Blk.map (List.map entE r.es) r.clock)]) := snode_numbers_all.1 (l, m) r h
set_option maxHeartbeats 4000000 in
theorem snode_numbers_L0_ok {t6 : (Sl T.Snip)} {t7 : Int} {t8 : Int} {in_ : MapII} {r : (MapII)} (h : snode_numbers_L0 (t6, t7, t8, in_) = some r) :
    O.loop 33 0 ⟨[(1, AV.map 0), (6, AV.pv (PV.sl t6.nil (szc 18 t6.l) (List.map T.Snip.enc t6.l))), (7, AV.pv (PV.int IntKind.i64 t7)), (8, AV.pv (PV.int IntKind.i64 t8))], [(0, Blk.map (List.map entE in_.es) in_.clock)], 1⟩ = some (Ex.normal, ⟨[], [(0, Blk.map (List.map entE r.es) r.clock)], 1⟩) := snode_numbers_all.2 (t6, t7, t8, in_) r h
set_option maxHeartbeats 4000000 in
theorem maps_Keys_map_int_int_ok {m : MapII} {r : (Unit)} (h : maps_Keys_map_int_int m = some r) :
    O.call 35 [AV.map 0] [(0, Blk.map (List.map entE m.es) m.clock)] = some (AV.clo 46 [] [AV.ptr 1 0], [(0, Blk.map (List.map entE m.es) m.clock), (1, Blk.box [AV.map 0])]) := by
  unfold maps_Keys_map_int_int at h
  cases h
  rotate_left
  all_goals
    refine omega_F rfl fn35 (by rfl) (by rfl) rfl ?_
    simp (disch := first | assumption | rfl | exact Sure.mk (by kernel_rfl)) only [go_sem, coreG.down, tab.down, ↓reduceIte, Nat.reduceLeDiff, Nat.reduceEqDiff, Nat.reduceLT, Nat.reduceAdd, Nat.reduceSub, Nat.reduceMul, reduceCtorEq, Nat.reducePow, *]
set_option maxHeartbeats 4000000 in
theorem snode_Numbers_ok {l : (Sl T.Snip)} {r : ((Sl Int))} (h : snode_Numbers l = some r) :
    O.call 20 [AV.pv (PV.sl l.nil (szc 18 l.l) (List.map T.Snip.enc l.l))] [] = some (AV.pv (PV.sl r.nil (szc 1 r.l) (List.map intE r.l)), []) := by
  unfold snode_Numbers at h
  obtain ⟨v2, h1, h⟩ := Option.bind_eq_some_iff.1 h
  have f1 := snode_numbers_ok h1
  try simp only [T.Snip.enc_eq, encx.down, Nat.zero_add, Nat.reduceAdd] at f1
  obtain ⟨v4, h3, h⟩ := Option.bind_eq_some_iff.1 h
  have f2 := maps_Keys_map_int_int_ok h3
  try simp only [encx.down, Nat.zero_add, Nat.reduceAdd] at f2
  obtain ⟨v6, h5, h⟩ := Option.bind_eq_some_iff.1 h
  have f3 := sortedKeys_ok h5
  try simp only [intE, encx.down, Nat.zero_add, Nat.reduceAdd] at f3
  cases h
  rotate_left
  all_goals
    refine omega_F rfl fn20 (by rfl) (by rfl) rfl ?_
    simp (disch := first | assumption | rfl | exact Sure.mk (by kernel_rfl)) only [go_sem, coreG.down, tab.down, ↓reduceIte, Nat.reduceLeDiff, Nat.reduceEqDiff, Nat.reduceLT, Nat.reduceAdd, Nat.reduceSub, Nat.reduceMul, reduceCtorEq, Nat.reducePow, T.Snip.enc_eq, intE, *]
def law20_NodeNumbers_L0_enc (s : (Sl T.Snip)) (ns : (Sl Int)) : ((Bool) ⊕ (Unit)) → Ex × St
  | .inl y => (Ex.ret, ⟨[(0, AV.pv (PV.sl s.nil (szc 18 s.l) (List.map T.Snip.enc s.l))), (2, AV.pv (PV.bool y)), (3, AV.pv (PV.sl ns.nil (szc 1 ns.l) (List.map intE ns.l)))], [], 0⟩)
  | .inr y => (Ex.normal, ⟨[(0, AV.pv (PV.sl s.nil (szc 18 s.l) (List.map T.Snip.enc s.l))), (2, AV.undef), (3, AV.pv (PV.sl ns.nil (szc 1 ns.l) (List.map intE ns.l)))], [], 0⟩)
set_option maxHeartbeats 4000000 in
theorem law20_NodeNumbers_L0_ok {s : (Sl T.Snip)} {ns : (Sl Int)} {i : Int} {r : ((Bool) ⊕ (Unit))} (h : law20_NodeNumbers_L0 (s, ns, i) = some r) :
    O.loop 7 0 ⟨[(0, AV.pv (PV.sl s.nil (szc 18 s.l) (List.map T.Snip.enc s.l))), (3, AV.pv (PV.sl ns.nil (szc 1 ns.l) (List.map intE ns.l))), (4, AV.pv (PV.int IntKind.i64 i))], [], 0⟩ = some (law20_NodeNumbers_L0_enc s ns r) := by
  refine law20_NodeNumbers_L0.partial_correctness (fun p r => O.loop 7 0 ⟨[(0, AV.pv (PV.sl p.1.nil (szc 18 p.1.l) (List.map T.Snip.enc p.1.l))), (3, AV.pv (PV.sl p.2.1.nil (szc 1 p.2.1.l) (List.map intE p.2.1.l))), (4, AV.pv (PV.int IntKind.i64 p.2.2))], [], 0⟩ = some (law20_NodeNumbers_L0_enc p.1 p.2.1 r)) ?_ (s, ns, i) r h
  clear h r s ns i
  intro law20_NodeNumbers_L0 ih16
  rintro ⟨s, ns, i⟩ r h
  dsimp only at h ⊢
  by_cases h1 : (decide (i < (ns.l.length : Int))) = true
  rw [if_pos h1] at h
  obtain ⟨x3, h2, h⟩ := Option.bind_eq_some_iff.1 h
  have f1 := geti_nat h2 IntKind.i64
  have f2 := geti_map intE h2
  try simp only [intE, encx.down, Nat.zero_add, Nat.reduceAdd] at f2
  have f3 := geti_szcT h2 1
  obtain ⟨x5, h4, h⟩ := Option.bind_eq_some_iff.1 h
  have f4 := geti_nat h4 IntKind.i64
  have f5 := geti_map intE h4
  try simp only [intE, encx.down, Nat.zero_add, Nat.reduceAdd] at f5
  have f6 := geti_szcT h4 1
  by_cases h6 : (decide (x3 ≤ x5)) = true
  rw [if_pos h6] at h
  cases h
  show _ = some (law20_NodeNumbers_L0_enc _ _ (.inl _))
  dsimp only [law20_NodeNumbers_L0_enc]
  clear ih16
  rotate_left
  rw [if_neg h6] at h; replace h6 := Bool.eq_false_iff.2 h6
  have f7 := ih16 _ _ h
  try dsimp only at f7
  try simp only [T.Snip.enc_eq, intE, encx.down, Nat.zero_add, Nat.reduceAdd] at f7
  clear h
  clear ih16
  rotate_left
  rw [if_neg h1] at h; replace h1 := Bool.eq_false_iff.2 h1
  cases h
  show _ = some (law20_NodeNumbers_L0_enc _ _ (.inr _))
  dsimp only [law20_NodeNumbers_L0_enc]
  clear ih16
  rotate_left
  all_goals
    refine omega_L fn7 (by rfl) ?_
    simp (disch := first | assumption | rfl | exact Sure.mk (by kernel_rfl)) only [go_sem, coreG.down, tab.down, ↓reduceIte, Nat.reduceLeDiff, Nat.reduceEqDiff, Nat.reduceLT, Nat.reduceAdd, Nat.reduceSub, Nat.reduceMul, reduceCtorEq, Nat.reducePow, sp7_0, sp7_2, sp7_4, sp7_6, T.Snip.enc_eq, intE, *]
set_option maxHeartbeats 4000000 in
theorem law20_NodeNumbers_L4_ok {s : (Sl T.Snip)} {ns : (Sl Int)} {i : Int} {in_ : Bool} {k : Int} {row : (List T.Snip)} {met : (List Bool)} {r : (Bool × (List Bool))} (h : law20_NodeNumbers_L4 (s, ns, i, in_, k, row, met) = some r) :
    O.loop 7 4 ⟨[(0, AV.pv (PV.sl s.nil (szc 18 s.l) (List.map T.Snip.enc s.l))), (3, AV.pv (PV.sl ns.nil (szc 1 ns.l) (List.map intE ns.l))), (5, AV.row 0 row.length 0 row.length), (6, AV.row 1 met.length 0 met.length), (7, AV.pv (PV.int IntKind.i64 i)), (8, AV.pv (PV.bool in_)), (9, AV.pv (PV.int IntKind.i64 k))], [(0, Blk.row false 18 (List.map T.Snip.enc row)), (1, Blk.row false 1 (List.map boolE met))], 2⟩ = some (Ex.normal, ⟨[(0, AV.pv (PV.sl s.nil (szc 18 s.l) (List.map T.Snip.enc s.l))), (3, AV.pv (PV.sl ns.nil (szc 1 ns.l) (List.map intE ns.l))), (5, AV.row 0 row.length 0 row.length), (6, AV.row 1 r.2.length 0 r.2.length), (7, AV.pv (PV.int IntKind.i64 i)), (8, AV.pv (PV.bool r.1))], [(0, Blk.row false 18 (List.map T.Snip.enc row)), (1, Blk.row false 1 (List.map boolE r.2))], 2⟩) := by
  refine law20_NodeNumbers_L4.partial_correctness (fun p r => O.loop 7 4 ⟨[(0, AV.pv (PV.sl p.1.nil (szc 18 p.1.l) (List.map T.Snip.enc p.1.l))), (3, AV.pv (PV.sl p.2.1.nil (szc 1 p.2.1.l) (List.map intE p.2.1.l))), (5, AV.row 0 p.2.2.2.2.2.1.length 0 p.2.2.2.2.2.1.length), (6, AV.row 1 p.2.2.2.2.2.2.length 0 p.2.2.2.2.2.2.length), (7, AV.pv (PV.int IntKind.i64 p.2.2.1)), (8, AV.pv (PV.bool p.2.2.2.1)), (9, AV.pv (PV.int IntKind.i64 p.2.2.2.2.1))], [(0, Blk.row false 18 (List.map T.Snip.enc p.2.2.2.2.2.1)), (1, Blk.row false 1 (List.map boolE p.2.2.2.2.2.2))], 2⟩ = some (Ex.normal, ⟨[(0, AV.pv (PV.sl p.1.nil (szc 18 p.1.l) (List.map T.Snip.enc p.1.l))), (3, AV.pv (PV.sl p.2.1.nil (szc 1 p.2.1.l) (List.map intE p.2.1.l))), (5, AV.row 0 p.2.2.2.2.2.1.length 0 p.2.2.2.2.2.1.length), (6, AV.row 1 r.2.length 0 r.2.length), (7, AV.pv (PV.int IntKind.i64 p.2.2.1)), (8, AV.pv (PV.bool r.1))], [(0, Blk.row false 18 (List.map T.Snip.enc p.2.2.2.2.2.1)), (1, Blk.row false 1 (List.map boolE r.2))], 2⟩)) ?_ (s, ns, i, in_, k, row, met) r h
  clear h r s ns i in_ k row met
  intro law20_NodeNumbers_L4 ih18
  rintro ⟨s, ns, i, in_, k, row, met⟩ r h
  dsimp only at h ⊢
  by_cases h1 : (decide (k < (ns.l.length : Int))) = true
  rw [if_pos h1] at h
  obtain ⟨x3, h2, h⟩ := Option.bind_eq_some_iff.1 h
  have f1 := geti_nat h2 IntKind.i64
  have f2 := geti_map intE h2
  try simp only [intE, encx.down, Nat.zero_add, Nat.reduceAdd] at f2
  have f3 := geti_szcT h2 1
  obtain ⟨x5, h4, h⟩ := Option.bind_eq_some_iff.1 h
  have f4 := geti_nat h4 IntKind.i64
  have f5 := geti_map T.Snip.enc h4
  try simp only [T.Snip.enc_eq, encx.down, Nat.zero_add, Nat.reduceAdd] at f5
  have f6 := geti_lt h4
  by_cases h6 : (x3 == x5.n) = true
  rw [if_pos h6] at h
  obtain ⟨x8, h7, h⟩ := Option.bind_eq_some_iff.1 h
  have f7 := geti_nat h7 IntKind.i64
  have f8 := geti_map boolE h7
  try simp only [boolE, encx.down, Nat.zero_add, Nat.reduceAdd] at f8
  have f9 := geti_lt h7
  have f10 := map_set boolE met k.toNat true
  try simp only [boolE, encx.down, Nat.zero_add, Nat.reduceAdd] at f10
  have f11 := ih18 _ _ h
  try dsimp only at f11
  try simp only [T.Snip.enc_eq, boolE, intE, encx.down, Nat.zero_add, Nat.reduceAdd] at f11
  clear h
  clear ih18
  rotate_left
  rw [if_neg h6] at h; replace h6 := Bool.eq_false_iff.2 h6
  have f12 := ih18 _ _ h
  try dsimp only at f12
  try simp only [T.Snip.enc_eq, boolE, intE, encx.down, Nat.zero_add, Nat.reduceAdd] at f12
  clear h
  clear ih18
  rotate_left
  rw [if_neg h1] at h; replace h1 := Bool.eq_false_iff.2 h1
  cases h
  clear ih18
  rotate_left
  all_goals
    refine omega_L fn7 (by rfl) ?_
    simp (disch := first | assumption | rfl | exact Sure.mk (by kernel_rfl)) only [go_sem, coreG.down, tab.down, ↓reduceIte, Nat.reduceLeDiff, Nat.reduceEqDiff, Nat.reduceLT, Nat.reduceAdd, Nat.reduceSub, Nat.reduceMul, reduceCtorEq, Nat.reducePow, sp7_0, sp7_2, sp7_4, sp7_6, T.Snip.enc_eq, boolE, intE, *]
def law20_NodeNumbers_L2_enc (s : (Sl T.Snip)) : ((Bool × (List T.Snip) × (List Bool)) ⊕ ((List T.Snip) × (List Bool))) → Ex × St
  | .inl y => (Ex.ret, ⟨[(0, AV.pv (PV.sl s.nil (szc 18 s.l) (List.map T.Snip.enc s.l))), (2, AV.pv (PV.bool y.1)), (5, AV.row 0 y.2.1.length 0 y.2.1.length), (6, AV.row 1 y.2.2.length 0 y.2.2.length)], [(0, Blk.row false 18 (List.map T.Snip.enc y.2.1)), (1, Blk.row false 1 (List.map boolE y.2.2))], 2⟩)
  | .inr y => (Ex.normal, ⟨[(0, AV.pv (PV.sl s.nil (szc 18 s.l) (List.map T.Snip.enc s.l))), (2, AV.undef), (5, AV.row 0 y.1.length 0 y.1.length), (6, AV.row 1 y.2.length 0 y.2.length)], [(0, Blk.row false 18 (List.map T.Snip.enc y.1)), (1, Blk.row false 1 (List.map boolE y.2))], 2⟩)
set_option maxHeartbeats 4000000 in
theorem law20_NodeNumbers_L2_ok {s : (Sl T.Snip)} {ns : (Sl Int)} {i : Int} {row : (List T.Snip)} {met : (List Bool)} {r : ((Bool × (List T.Snip) × (List Bool)) ⊕ ((List T.Snip) × (List Bool)))} (h : law20_NodeNumbers_L2 (s, ns, i, row, met) = some r) :
    O.loop 7 2 ⟨[(0, AV.pv (PV.sl s.nil (szc 18 s.l) (List.map T.Snip.enc s.l))), (3, AV.pv (PV.sl ns.nil (szc 1 ns.l) (List.map intE ns.l))), (5, AV.row 0 row.length 0 row.length), (6, AV.row 1 met.length 0 met.length), (7, AV.pv (PV.int IntKind.i64 i))], [(0, Blk.row false 18 (List.map T.Snip.enc row)), (1, Blk.row false 1 (List.map boolE met))], 2⟩ = some (law20_NodeNumbers_L2_enc s r) := by
  refine law20_NodeNumbers_L2.partial_correctness (fun p r => O.loop 7 2 ⟨[(0, AV.pv (PV.sl p.1.nil (szc 18 p.1.l) (List.map T.Snip.enc p.1.l))), (3, AV.pv (PV.sl p.2.1.nil (szc 1 p.2.1.l) (List.map intE p.2.1.l))), (5, AV.row 0 p.2.2.2.1.length 0 p.2.2.2.1.length), (6, AV.row 1 p.2.2.2.2.length 0 p.2.2.2.2.length), (7, AV.pv (PV.int IntKind.i64 p.2.2.1))], [(0, Blk.row false 18 (List.map T.Snip.enc p.2.2.2.1)), (1, Blk.row false 1 (List.map boolE p.2.2.2.2))], 2⟩ = some (law20_NodeNumbers_L2_enc p.1 r)) ?_ (s, ns, i, row, met) r h
  clear h r s ns i row met
  intro law20_NodeNumbers_L2 ih17
  rintro ⟨s, ns, i, row, met⟩ r h
  dsimp only at h ⊢
  by_cases h1 : (decide (i < (row.length : Int))) = true
  rw [if_pos h1] at h
  obtain ⟨x3, h2, h⟩ := Option.bind_eq_some_iff.1 h
  have f1 := geti_nat h2 IntKind.i64
  have f2 := geti_map T.Snip.enc h2
  try simp only [T.Snip.enc_eq, encx.down, Nat.zero_add, Nat.reduceAdd] at f2
  have f3 := geti_lt h2
  have f4 : (szc 18 x3.kids.l = 18 ∨ List.map T.Snip.enc x3.kids.l = []) = True := szc_or _ _ _
  by_cases h4 : ¬ (roomOK (row.length + x3.kids.l.length) 224 = true)
  rw [if_neg h4] at h; cases h
  replace h4 := Decidable.of_not_not h4; rw [if_pos h4] at h
  have f5 := h4
  have f6 : List.map T.Snip.enc row ++ List.map T.Snip.enc x3.kids.l = List.map T.Snip.enc (row ++ x3.kids.l) := map_app _ _ _
  obtain ⟨x6, h5, h⟩ := Option.bind_eq_some_iff.1 h
  have f7 := geti_nat h5 IntKind.i64
  have f8 := geti_map T.Snip.enc h5
  try simp only [T.Snip.enc_eq, encx.down, Nat.zero_add, Nat.reduceAdd] at f8
  have f9 := geti_lt h5
  by_cases h7 : (x6.kind != (1 : Int)) = true
  rw [if_pos h7] at h
  by_cases h8 : (x6.kind != (2 : Int)) = true
  rw [if_pos h8] at h
  have f10 := ih17 _ _ h
  try dsimp only at f10
  try simp only [T.Snip.enc_eq, boolE, intE, encx.down, Nat.zero_add, Nat.reduceAdd] at f10
  clear h
  clear ih17
  rotate_left
  rw [if_neg h8] at h; replace h8 := Bool.eq_false_iff.2 h8
  obtain ⟨v10, h9, h⟩ := Option.bind_eq_some_iff.1 h
  have f11 := law20_NodeNumbers_L4_ok h9
  try simp only [T.Snip.enc_eq, boolE, intE, encx.down, Nat.zero_add, Nat.reduceAdd] at f11
  by_cases h11 : (!v10.1) = true
  rw [if_pos h11] at h
  cases h
  show _ = some (law20_NodeNumbers_L2_enc _ (.inl _))
  dsimp only [law20_NodeNumbers_L2_enc]
  clear ih17
  rotate_left
  rw [if_neg h11] at h; replace h11 := Bool.eq_false_iff.2 h11
  have f12 := ih17 _ _ h
  try dsimp only at f12
  try simp only [T.Snip.enc_eq, boolE, intE, encx.down, Nat.zero_add, Nat.reduceAdd] at f12
  clear h
  clear ih17
  rotate_left
  rw [if_neg h7] at h; replace h7 := Bool.eq_false_iff.2 h7
  obtain ⟨v13, h12, h⟩ := Option.bind_eq_some_iff.1 h
  have f13 := law20_NodeNumbers_L4_ok h12
  try simp only [T.Snip.enc_eq, boolE, intE, encx.down, Nat.zero_add, Nat.reduceAdd] at f13
  by_cases h14 : (!v13.1) = true
  rw [if_pos h14] at h
  cases h
  show _ = some (law20_NodeNumbers_L2_enc _ (.inl _))
  dsimp only [law20_NodeNumbers_L2_enc]
  clear ih17
  rotate_left
  rw [if_neg h14] at h; replace h14 := Bool.eq_false_iff.2 h14
  have f14 := ih17 _ _ h
  try dsimp only at f14
  try simp only [T.Snip.enc_eq, boolE, intE, encx.down, Nat.zero_add, Nat.reduceAdd] at f14
  clear h
  clear ih17
  rotate_left
  rw [if_neg h1] at h; replace h1 := Bool.eq_false_iff.2 h1
  cases h
  show _ = some (law20_NodeNumbers_L2_enc _ (.inr _))
  dsimp only [law20_NodeNumbers_L2_enc]
  clear ih17
  rotate_left
  all_goals
    refine omega_L fn7 (by rfl) ?_
    simp (disch := first | assumption | rfl | exact Sure.mk (by kernel_rfl)) only [go_sem, coreG.down, tab.down, ↓reduceIte, Nat.reduceLeDiff, Nat.reduceEqDiff, Nat.reduceLT, Nat.reduceAdd, Nat.reduceSub, Nat.reduceMul, reduceCtorEq, Nat.reducePow, sp7_0, sp7_2, sp7_4, sp7_6, T.Snip.enc_eq, boolE, intE, *]
def law20_NodeNumbers_L6_enc (s : (Sl T.Snip)) (row : (List T.Snip)) (met : (List Bool)) : ((Bool) ⊕ (Unit)) → Ex × St
  | .inl y => (Ex.ret, ⟨[(0, AV.pv (PV.sl s.nil (szc 18 s.l) (List.map T.Snip.enc s.l))), (2, AV.pv (PV.bool y)), (5, AV.row 0 row.length 0 row.length)], [(0, Blk.row false 18 (List.map T.Snip.enc row)), (1, Blk.row false 1 (List.map boolE met))], 2⟩)
  | .inr y => (Ex.normal, ⟨[(0, AV.pv (PV.sl s.nil (szc 18 s.l) (List.map T.Snip.enc s.l))), (2, AV.undef), (5, AV.row 0 row.length 0 row.length)], [(0, Blk.row false 18 (List.map T.Snip.enc row)), (1, Blk.row false 1 (List.map boolE met))], 2⟩)
set_option maxHeartbeats 4000000 in
theorem law20_NodeNumbers_L6_ok {s : (Sl T.Snip)} {k : Int} {row : (List T.Snip)} {met : (List Bool)} {r : ((Bool) ⊕ (Unit))} (h : law20_NodeNumbers_L6 (s, k, row, met) = some r) :
    O.loop 7 6 ⟨[(0, AV.pv (PV.sl s.nil (szc 18 s.l) (List.map T.Snip.enc s.l))), (5, AV.row 0 row.length 0 row.length), (6, AV.row 1 met.length 0 met.length), (10, AV.pv (PV.int IntKind.i64 k))], [(0, Blk.row false 18 (List.map T.Snip.enc row)), (1, Blk.row false 1 (List.map boolE met))], 2⟩ = some (law20_NodeNumbers_L6_enc s row met r) := by
  refine law20_NodeNumbers_L6.partial_correctness (fun p r => O.loop 7 6 ⟨[(0, AV.pv (PV.sl p.1.nil (szc 18 p.1.l) (List.map T.Snip.enc p.1.l))), (5, AV.row 0 p.2.2.1.length 0 p.2.2.1.length), (6, AV.row 1 p.2.2.2.length 0 p.2.2.2.length), (10, AV.pv (PV.int IntKind.i64 p.2.1))], [(0, Blk.row false 18 (List.map T.Snip.enc p.2.2.1)), (1, Blk.row false 1 (List.map boolE p.2.2.2))], 2⟩ = some (law20_NodeNumbers_L6_enc p.1 p.2.2.1 p.2.2.2 r)) ?_ (s, k, row, met) r h
  clear h r s k row met
  intro law20_NodeNumbers_L6 ih19
  rintro ⟨s, k, row, met⟩ r h
  dsimp only at h ⊢
  by_cases h1 : (decide (k < (met.length : Int))) = true
  rw [if_pos h1] at h
  obtain ⟨x3, h2, h⟩ := Option.bind_eq_some_iff.1 h
  have f1 := geti_nat h2 IntKind.i64
  have f2 := geti_map boolE h2
  try simp only [boolE, encx.down, Nat.zero_add, Nat.reduceAdd] at f2
  have f3 := geti_lt h2
  by_cases h4 : (!x3) = true
  rw [if_pos h4] at h
  cases h
  show _ = some (law20_NodeNumbers_L6_enc _ _ _ (.inl _))
  dsimp only [law20_NodeNumbers_L6_enc]
  clear ih19
  rotate_left
  rw [if_neg h4] at h; replace h4 := Bool.eq_false_iff.2 h4
  have f4 := ih19 _ _ h
  try dsimp only at f4
  try simp only [T.Snip.enc_eq, boolE, encx.down, Nat.zero_add, Nat.reduceAdd] at f4
  clear h
  clear ih19
  rotate_left
  rw [if_neg h1] at h; replace h1 := Bool.eq_false_iff.2 h1
  cases h
  show _ = some (law20_NodeNumbers_L6_enc _ _ _ (.inr _))
  dsimp only [law20_NodeNumbers_L6_enc]
  clear ih19
  rotate_left
  all_goals
    refine omega_L fn7 (by rfl) ?_
    simp (disch := first | assumption | rfl | exact Sure.mk (by kernel_rfl)) only [go_sem, coreG.down, tab.down, ↓reduceIte, Nat.reduceLeDiff, Nat.reduceEqDiff, Nat.reduceLT, Nat.reduceAdd, Nat.reduceSub, Nat.reduceMul, reduceCtorEq, Nat.reducePow, sp7_0, sp7_2, sp7_4, sp7_6, T.Snip.enc_eq, boolE, *]
set_option maxHeartbeats 4000000 in
theorem snode_Parts_all : (∀ p r, snode_Parts p = some r → O.call 21 [AV.pv (PV.sl p.nil (szc 18 p.l) (List.map T.Snip.enc p.l))] [] = some (AV.pv (PV.int IntKind.i64 r), [])) ∧ (∀ p r, snode_Parts_L0 p = some r → O.loop 21 0 ⟨[(3, AV.pv (PV.int IntKind.i64 p.1)), (8, AV.pv (PV.sl p.2.1.nil (szc 18 p.2.1.l) (List.map T.Snip.enc p.2.1.l))), (9, AV.pv (PV.int IntKind.i64 p.2.2.1)), (10, AV.pv (PV.int IntKind.i64 p.2.2.2))], [], 0⟩ = some (Ex.normal, ⟨[(3, AV.pv (PV.int IntKind.i64 r))], [], 0⟩)) := by
  refine snode_Parts.mutual_partial_correctness (fun p r => O.call 21 [AV.pv (PV.sl p.nil (szc 18 p.l) (List.map T.Snip.enc p.l))] [] = some (AV.pv (PV.int IntKind.i64 r), [])) (fun p r => O.loop 21 0 ⟨[(3, AV.pv (PV.int IntKind.i64 p.1)), (8, AV.pv (PV.sl p.2.1.nil (szc 18 p.2.1.l) (List.map T.Snip.enc p.2.1.l))), (9, AV.pv (PV.int IntKind.i64 p.2.2.1)), (10, AV.pv (PV.int IntKind.i64 p.2.2.2))], [], 0⟩ = some (Ex.normal, ⟨[(3, AV.pv (PV.int IntKind.i64 r))], [], 0⟩)) ?_ ?_
  · intro snode_Parts_L0 ih21
    rintro l r h
    try dsimp only at h ⊢
    obtain ⟨v2, h1, h⟩ := Option.bind_eq_some_iff.1 h
    have f1 := ih21 _ _ h1
    try dsimp only at f1
    try simp only [T.Snip.enc_eq, encx.down, Nat.zero_add, Nat.reduceAdd] at f1
    cases h
    clear ih21
    rotate_left
    all_goals
      refine omega_F rfl fn21 (by rfl) (by rfl) rfl ?_
      simp (disch := first | assumption | rfl | exact Sure.mk (by kernel_rfl)) only [go_sem, coreG.down, tab.down, ↓reduceIte, Nat.reduceLeDiff, Nat.reduceEqDiff, Nat.reduceLT, Nat.reduceAdd, Nat.reduceSub, Nat.reduceMul, reduceCtorEq, Nat.reducePow, sp21_0, T.Snip.enc_eq, *]
  · intro snode_Parts snode_Parts_L0 ih20 ih21
    rintro ⟨n, t8, t9, t10⟩ r h
    dsimp only at h ⊢
    by_cases h1 : (decide (t10 < t9)) = true
    rw [if_pos h1] at h
    obtain ⟨x3, h2, h⟩ := Option.bind_eq_some_iff.1 h
    have f1 := geti_nat h2 IntKind.i64
    have f2 := geti_map T.Snip.enc h2
    try simp only [T.Snip.enc_eq, encx.down, Nat.zero_add, Nat.reduceAdd] at f2
    have f3 := geti_szcT h2 18
    obtain ⟨v5, h4, h⟩ := Option.bind_eq_some_iff.1 h
    have f4 := ih20 _ _ h4
    try dsimp only at f4
    try simp only [T.Snip.enc_eq, encx.down, Nat.zero_add, Nat.reduceAdd] at f4
    have f5 := ih21 _ _ h
    try dsimp only at f5
    try simp only [T.Snip.enc_eq, encx.down, Nat.zero_add, Nat.reduceAdd] at f5
    clear h
    clear ih20 ih21
    rotate_left
    rw [if_neg h1] at h; replace h1 := Bool.eq_false_iff.2 h1
    cases h
    clear ih20 ih21
    rotate_left
    all_goals
      refine omega_L fn21 (by rfl) ?_
      simp (disch := first | assumption | rfl | exact Sure.mk (by kernel_rfl)) only [go_sem, coreG.down, tab.down, ↓reduceIte, Nat.reduceLeDiff, Nat.reduceEqDiff, Nat.reduceLT, Nat.reduceAdd, Nat.reduceSub, Nat.reduceMul, reduceCtorEq, Nat.reducePow, sp21_0, T.Snip.enc_eq, *]
set_option maxHeartbeats 4000000 in
theorem snode_Parts_ok {l : (Sl T.Snip)} {r : (Int)} (h : snode_Parts l = some r) :
    O.call 21 [AV.pv (PV.sl l.nil (szc 18 l.l) (List.map T.Snip.enc l.l))] [] = some (AV.pv (PV.int IntKind.i64 r), []) := snode_Parts_all.1 l r h
set_option maxHeartbeats 4000000 in
theorem snode_Parts_L0_ok {n : Int} {t8 : (Sl T.Snip)} {t9 : Int} {t10 : Int} {r : (Int)} (h : snode_Parts_L0 (n, t8, t9, t10) = some r) :
    O.loop 21 0 ⟨[(3, AV.pv (PV.int IntKind.i64 n)), (8, AV.pv (PV.sl t8.nil (szc 18 t8.l) (List.map T.Snip.enc t8.l))), (9, AV.pv (PV.int IntKind.i64 t9)), (10, AV.pv (PV.int IntKind.i64 t10))], [], 0⟩ = some (Ex.normal, ⟨[(3, AV.pv (PV.int IntKind.i64 r))], [], 0⟩) := snode_Parts_all.2 (n, t8, t9, t10) r h
set_option maxHeartbeats 4000000 in
theorem law20_NodeNumbers_ok {s : (Sl T.Snip)} {r : (Bool)} (h : law20_NodeNumbers s = some r) :
    O.call 7 [AV.pv (PV.sl s.nil (szc 18 s.l) (List.map T.Snip.enc s.l))] [] = some (AV.pv (PV.bool r), []) := by
  unfold law20_NodeNumbers at h
  obtain ⟨v2, h1, h⟩ := Option.bind_eq_some_iff.1 h
  have f1 := law0_Snips_ok h1
  try simp only [T.Snip.enc_eq, encx.down, Nat.zero_add, Nat.reduceAdd] at f1
  by_cases h3 : (decide (v2 < (0 : Int))) = true
  rw [if_pos h3] at h
  obtain ⟨v5, h4, h⟩ := Option.bind_eq_some_iff.1 h
  have f2 := aw9_ok h4
  try simp only [encx.down, Nat.zero_add, Nat.reduceAdd] at f2
  cases h
  rotate_left
  rw [if_neg h3] at h; replace h3 := Bool.eq_false_iff.2 h3
  obtain ⟨v7, h6, h⟩ := Option.bind_eq_some_iff.1 h
  have f3 := snode_Numbers_ok h6
  try simp only [T.Snip.enc_eq, intE, encx.down, Nat.zero_add, Nat.reduceAdd] at f3
  obtain ⟨v9, h8, h⟩ := Option.bind_eq_some_iff.1 h
  have f4 := law20_NodeNumbers_L0_ok h8
  try simp only [T.Snip.enc_eq, intE, encx.down, Nat.zero_add, Nat.reduceAdd] at f4
  rcases v9 with y10 | y11
  dsimp only at h
  simp only [law20_NodeNumbers_L0_enc, T.Snip.enc_eq, intE, encx.down, Nat.zero_add, Nat.reduceAdd] at f4
  cases h
  rotate_left
  dsimp only at h
  simp only [law20_NodeNumbers_L0_enc, T.Snip.enc_eq, intE, encx.down, Nat.zero_add, Nat.reduceAdd] at f4
  have f5 : (szc 18 s.l = 18 ∨ List.map T.Snip.enc s.l = []) = True := szc_or _ _ _
  by_cases h12 : ¬ (roomOK (s.l.length) 224 = true)
  rw [if_neg h12] at h; cases h
  replace h12 := Decidable.of_not_not h12; rw [if_pos h12] at h
  have f6 := h12
  by_cases h13 : ¬ (0 ≤ (v7.l.length : Int))
  rw [if_neg h13] at h; cases h
  replace h13 := Decidable.of_not_not h13; rw [if_pos h13] at h
  have f7 := nat_made IntKind.i64 h13
  by_cases h14 : ¬ (roomOK (v7.l.length : Int).toNat 1 = true)
  rw [if_neg h14] at h; cases h
  replace h14 := Decidable.of_not_not h14; rw [if_pos h14] at h
  have f8 := h14
  have f9 : List.replicate (v7.l.length : Int).toNat [PV.bool false] = List.map boolE (List.replicate (v7.l.length : Int).toNat false) := by rw [List.map_replicate]; rfl
  obtain ⟨v16, h15, h⟩ := Option.bind_eq_some_iff.1 h
  have f10 := law20_NodeNumbers_L2_ok h15
  try simp only [T.Snip.enc_eq, boolE, intE, encx.down, Nat.zero_add, Nat.reduceAdd] at f10
  rcases v16 with y17 | y18
  dsimp only at h
  simp only [law20_NodeNumbers_L2_enc, T.Snip.enc_eq, boolE, intE, encx.down, Nat.zero_add, Nat.reduceAdd] at f10
  cases h
  rotate_left
  dsimp only at h
  simp only [law20_NodeNumbers_L2_enc, T.Snip.enc_eq, boolE, intE, encx.down, Nat.zero_add, Nat.reduceAdd] at f10
  obtain ⟨v20, h19, h⟩ := Option.bind_eq_some_iff.1 h
  have f11 := law20_NodeNumbers_L6_ok h19
  try simp only [T.Snip.enc_eq, boolE, encx.down, Nat.zero_add, Nat.reduceAdd] at f11
  rcases v20 with y21 | y22
  dsimp only at h
  simp only [law20_NodeNumbers_L6_enc, T.Snip.enc_eq, boolE, encx.down, Nat.zero_add, Nat.reduceAdd] at f11
  cases h
  rotate_left
  dsimp only at h
  simp only [law20_NodeNumbers_L6_enc, T.Snip.enc_eq, boolE, encx.down, Nat.zero_add, Nat.reduceAdd] at f11
  obtain ⟨v24, h23, h⟩ := Option.bind_eq_some_iff.1 h
  have f12 := snode_Parts_ok h23
  try simp only [T.Snip.enc_eq, encx.down, Nat.zero_add, Nat.reduceAdd] at f12
  by_cases h25 : ((y18.1.length : Int) == v24) = true
  rw [if_pos h25] at h
  obtain ⟨v27, h26, h⟩ := Option.bind_eq_some_iff.1 h
  have f13 := aw9_ok h26
  try simp only [encx.down, Nat.zero_add, Nat.reduceAdd] at f13
  cases h
  rotate_left
  rw [if_neg h25] at h; replace h25 := Bool.eq_false_iff.2 h25
  cases h
  rotate_left
  all_goals
    refine omega_F rfl fn7 (by rfl) (by rfl) rfl ?_
    simp (disch := first | assumption | rfl | exact Sure.mk (by kernel_rfl)) only [go_sem, coreG.down, tab.down, ↓reduceIte, Nat.reduceLeDiff, Nat.reduceEqDiff, Nat.reduceLT, Nat.reduceAdd, Nat.reduceSub, Nat.reduceMul, reduceCtorEq, Nat.reducePow, sp7_0, sp7_2, sp7_4, sp7_6, T.Snip.enc_eq, *]
end Go.Proofs.Ytmlmgbnhaenabaa
