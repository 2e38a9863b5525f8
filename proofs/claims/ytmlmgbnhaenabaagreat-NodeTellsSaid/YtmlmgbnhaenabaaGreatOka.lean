/-
  What the machine's calls come to: the plain functions.
-/
import Derived.Test.YtmlmgbnhaenabaaGreatSp
import Derived.Test.YtmlmgbnhaenabaaGreatSh
import Derived.Test.YtmlmgbnhaenabaaGreatAw
set_option linter.unusedSimpArgs false
set_option linter.unusedVariables false
set_option maxRecDepth 100000
namespace Go.Proofs.YtmlmgbnhaenabaaGreat
open Go Go.Gm
attribute [local go_sem] needs aop aBin intBin aLoad List.toList_toArray avOf pvOf allPV List.take List.drop List.length_cons List.length_nil List.length_map aStore AV.stor AV.cells List.append aFieldAddr List.getElem?_cons_zero List.getElem?_cons_succ subHeap AV.refs AV.ren AV.rows if_true if_false List.nil_append List.append_nil List.cons_append tupled unz aBuiltin lenTd aLen ptrRows List.getElem?_nil touched List.isEmpty_nil Option.some.injEq aUn pure? PV.cells List.replicate List.set_cons_zero List.set_cons_succ aConvert strBin sliceOf eq_self AV.thaw Blk.thaw aSlice aNil isNilV aEq plainEq fitAll keyFits aMax maxFrom aPart Blk.ren Blk.refs List.flatMap_nil List.flatMap_cons List.map_cons List.map_nil List.drop_zero Option.isSome_none Option.isNone_none Option.isSome_some Option.isNone_some
def law0_Rx_L0_enc (x : T.Rx) : ((Int × Int) ⊕ (Int)) → Ex × St
  | .inl y => (Ex.ret, ⟨[(1, AV.pv (PV.int IntKind.i64 y.1)), (2, AV.ptr 0 0), (4, AV.pv (PV.int IntKind.i64 y.2))], [(0, Blk.box (List.map AV.pv (T.Rx.enc x)))], 1⟩)
  | .inr y => (Ex.normal, ⟨[(1, AV.pv (PV.int IntKind.i64 y)), (2, AV.ptr 0 0), (4, AV.undef)], [(0, Blk.box (List.map AV.pv (T.Rx.enc x)))], 1⟩)
set_option maxHeartbeats 4000000 in
theorem law0_Rx_L0_ok {n : Int} {i : Int} {x : T.Rx} {r : ((Int × Int) ⊕ (Int))} (h : law0_Rx_L0 (n, i, x) = some r) :
    O.loop 26 0 ⟨[(1, AV.pv (PV.int IntKind.i64 n)), (2, AV.ptr 0 0), (5, AV.pv (PV.int IntKind.i64 i))], [(0, Blk.box (List.map AV.pv (T.Rx.enc x)))], 1⟩ = some (law0_Rx_L0_enc x r) := by
  refine law0_Rx_L0.partial_correctness (fun p r => O.loop 26 0 ⟨[(1, AV.pv (PV.int IntKind.i64 p.1)), (2, AV.ptr 0 0), (5, AV.pv (PV.int IntKind.i64 p.2.1))], [(0, Blk.box (List.map AV.pv (T.Rx.enc p.2.2)))], 1⟩ = some (law0_Rx_L0_enc p.2.2 r)) ?_ (n, i, x) r h
  clear h r n i x
  intro law0_Rx_L0 ih5
  rintro ⟨n, i, x⟩ r h
  dsimp only at h ⊢
  by_cases h1 : (decide (i < (x.rows.l.length : Int))) = true
  rw [if_pos h1] at h
  obtain ⟨x3, h2, h⟩ := Option.bind_eq_some_iff.1 h
  have f1 := geti_nat h2 IntKind.i64
  have f2 := geti_map T.Row.enc h2
  try simp only [T.Row.enc_eq, encx.down, Nat.zero_add, Nat.reduceAdd] at f2
  have f3 := geti_szcT h2 2
  by_cases h4 : (decide ((x3.frm.length : Int) ≥ n)) = true
  rw [if_pos h4] at h
  cases h
  show _ = some (law0_Rx_L0_enc _ (.inl _))
  dsimp only [law0_Rx_L0_enc]
  clear ih5
  rotate_left
  rw [if_neg h4] at h; replace h4 := Bool.eq_false_iff.2 h4
  by_cases h5 : (decide ((x3.to.length : Int) ≥ n)) = true
  rw [if_pos h5] at h
  cases h
  show _ = some (law0_Rx_L0_enc _ (.inl _))
  dsimp only [law0_Rx_L0_enc]
  clear ih5
  rotate_left
  rw [if_neg h5] at h; replace h5 := Bool.eq_false_iff.2 h5
  have f4 := ih5 _ _ h
  try dsimp only at f4
  try simp only [T.Rx.enc_eq, encx.down, Nat.zero_add, Nat.reduceAdd] at f4
  clear h
  clear ih5
  rotate_left
  rw [if_neg h1] at h; replace h1 := Bool.eq_false_iff.2 h1
  cases h
  show _ = some (law0_Rx_L0_enc _ (.inr _))
  dsimp only [law0_Rx_L0_enc]
  clear ih5
  rotate_left
  all_goals
    refine omega_L fn26 (by rfl) ?_
    simp (disch := first | assumption | rfl | exact Sure.mk (by kernel_rfl)) only [go_sem, coreG.down, tab.down, ↓reduceIte, Nat.reduceLeDiff, Nat.reduceEqDiff, Nat.reduceLT, Nat.reduceAdd, Nat.reduceSub, Nat.reduceMul, reduceCtorEq, Nat.reducePow, sp26_0, sp26_2, T.Rx.enc_eq, *]
set_option maxHeartbeats 4000000 in
theorem law0_Rx_all : (∀ p r, law0_Rx p = some r → O.call 26 [AV.pv (PV.agg (T.Rx.enc p.1)), AV.pv (PV.int IntKind.i64 p.2)] [] = some (AV.pv (PV.int IntKind.i64 r), [])) ∧ (∀ p r, law0_Rx_L2 p = some r → O.loop 26 2 ⟨[(1, AV.pv (PV.int IntKind.i64 p.1)), (2, AV.ptr 0 0), (6, AV.pv (PV.int IntKind.i64 p.2.1))], [(0, Blk.box (List.map AV.pv (T.Rx.enc p.2.2)))], 1⟩ = some (Ex.normal, ⟨[(1, AV.pv (PV.int IntKind.i64 r))], [(0, Blk.box (List.map AV.pv (T.Rx.enc p.2.2)))], 1⟩)) := by
  refine law0_Rx.mutual_partial_correctness (fun p r => O.call 26 [AV.pv (PV.agg (T.Rx.enc p.1)), AV.pv (PV.int IntKind.i64 p.2)] [] = some (AV.pv (PV.int IntKind.i64 r), [])) (fun p r => O.loop 26 2 ⟨[(1, AV.pv (PV.int IntKind.i64 p.1)), (2, AV.ptr 0 0), (6, AV.pv (PV.int IntKind.i64 p.2.1))], [(0, Blk.box (List.map AV.pv (T.Rx.enc p.2.2)))], 1⟩ = some (Ex.normal, ⟨[(1, AV.pv (PV.int IntKind.i64 r))], [(0, Blk.box (List.map AV.pv (T.Rx.enc p.2.2)))], 1⟩)) ?_ ?_
  · intro law0_Rx_L2 ih6
    rintro ⟨x, n⟩ r h
    dsimp only at h ⊢
    by_cases g1 : ((decide ((x.char.length : Int) ≥ n)) || ((decide ((x.rows.l.length : Int) ≥ n)) || (decide ((x.kids.l.length : Int) ≥ n)))) = true
    focus
      rw [if_pos g1] at h
      rcases (by intro u0 u1 u2; cases u0 <;> cases u1 <;> cases u2 <;> simp [Dum] : ∀ u0 u1 u2 : Bool, (u0 || (u1 || u2)) = true → (u0 = true ∧ Dum ∧ Dum) ∨ (u0 = false ∧ u1 = true ∧ Dum) ∨ (u0 = false ∧ u1 = false ∧ u2 = true)) (decide ((x.char.length : Int) ≥ n)) (decide ((x.rows.l.length : Int) ≥ n)) (decide ((x.kids.l.length : Int) ≥ n)) g1 with ⟨h1, h2, h3⟩ | ⟨h1, h2, h3⟩ | ⟨h1, h2, h3⟩
      clear g1
      all_goals
        cases h
        clear ih6
        rotate_left
    rotate_left 3
    rw [if_neg g1] at h; replace g1 := Bool.eq_false_iff.2 g1
    rcases (by intro u0 u1 u2; cases u0 <;> cases u1 <;> cases u2 <;> simp [Dum] : ∀ u0 u1 u2 : Bool, (u0 || (u1 || u2)) = false → (u0 = false ∧ u1 = false ∧ u2 = false)) (decide ((x.char.length : Int) ≥ n)) (decide ((x.rows.l.length : Int) ≥ n)) (decide ((x.kids.l.length : Int) ≥ n)) g1 with ⟨h1, h2, h3⟩
    clear g1
    obtain ⟨v5, h4, h⟩ := Option.bind_eq_some_iff.1 h
    have f2 := law0_Rx_L0_ok h4
    try simp only [T.Rx.enc_eq, encx.down, Nat.zero_add, Nat.reduceAdd] at f2
    rcases v5 with y6 | y7
    dsimp only at h
    simp only [law0_Rx_L0_enc, T.Rx.enc_eq, encx.down, Nat.zero_add, Nat.reduceAdd] at f2
    cases h
    clear ih6
    rotate_left
    dsimp only at h
    simp only [law0_Rx_L0_enc, T.Rx.enc_eq, encx.down, Nat.zero_add, Nat.reduceAdd] at f2
    obtain ⟨v9, h8, h⟩ := Option.bind_eq_some_iff.1 h
    have f3 := ih6 _ _ h8
    try dsimp only at f3
    try simp only [T.Rx.enc_eq, encx.down, Nat.zero_add, Nat.reduceAdd] at f3
    cases h
    clear ih6
    rotate_left
    all_goals
      refine omega_F rfl fn26 (by rfl) (by rfl) rfl ?_
      simp (disch := first | assumption | rfl | exact Sure.mk (by kernel_rfl)) only [go_sem, coreG.down, tab.down, ↓reduceIte, Nat.reduceLeDiff, Nat.reduceEqDiff, Nat.reduceLT, Nat.reduceAdd, Nat.reduceSub, Nat.reduceMul, reduceCtorEq, Nat.reducePow, sp26_0, sp26_2, T.Rx.enc_eq, *]
  · intro law0_Rx law0_Rx_L2 ih4 ih6
    rintro ⟨n, i, x⟩ r h
    dsimp only at h ⊢
    by_cases g1 : ((decide (i < (x.kids.l.length : Int))) && (decide (n ≥ (0 : Int)))) = true
    rw [if_pos g1] at h
    rcases (by intro u0 u1; cases u0 <;> cases u1 <;> simp [Dum] : ∀ u0 u1 : Bool, (u0 && u1) = true → (u0 = true ∧ u1 = true)) (decide (i < (x.kids.l.length : Int))) (decide (n ≥ (0 : Int))) g1 with ⟨h1, h2⟩
    clear g1
    obtain ⟨x4, h3, h⟩ := Option.bind_eq_some_iff.1 h
    have f2 := geti_nat h3 IntKind.i64
    have f3 := geti_map T.Rx.enc h3
    try simp only [T.Rx.enc_eq, encx.down, Nat.zero_add, Nat.reduceAdd] at f3
    have f4 := geti_szcT h3 8
    obtain ⟨v6, h5, h⟩ := Option.bind_eq_some_iff.1 h
    have f5 := ih4 _ _ h5
    try dsimp only at f5
    try simp only [T.Rx.enc_eq, encx.down, Nat.zero_add, Nat.reduceAdd] at f5
    have f6 := ih6 _ _ h
    try dsimp only at f6
    try simp only [T.Rx.enc_eq, encx.down, Nat.zero_add, Nat.reduceAdd] at f6
    clear h
    clear ih4 ih6
    rotate_left
    focus
      rw [if_neg g1] at h; replace g1 := Bool.eq_false_iff.2 g1
      rcases (by intro u0 u1; cases u0 <;> cases u1 <;> simp [Dum] : ∀ u0 u1 : Bool, (u0 && u1) = false → (u0 = false ∧ Dum) ∨ (u0 = true ∧ u1 = false)) (decide (i < (x.kids.l.length : Int))) (decide (n ≥ (0 : Int))) g1 with ⟨h1, h2⟩ | ⟨h1, h2⟩
      clear g1
      all_goals
        cases h
        clear ih4 ih6
        rotate_left
    rotate_left 2
    all_goals
      refine omega_L fn26 (by rfl) ?_
      simp (disch := first | assumption | rfl | exact Sure.mk (by kernel_rfl)) only [go_sem, coreG.down, tab.down, ↓reduceIte, Nat.reduceLeDiff, Nat.reduceEqDiff, Nat.reduceLT, Nat.reduceAdd, Nat.reduceSub, Nat.reduceMul, reduceCtorEq, Nat.reducePow, sp26_0, sp26_2, T.Rx.enc_eq, *]
set_option maxHeartbeats 4000000 in
theorem law0_Rx_ok {x : T.Rx} {n : Int} {r : (Int)} (h : law0_Rx (x, n) = some r) :
    O.call 26 [AV.pv (PV.agg (T.Rx.enc x)), AV.pv (PV.int IntKind.i64 n)] [] = some (AV.pv (PV.int IntKind.i64 r), []) := law0_Rx_all.1 (x, n) r h
set_option maxHeartbeats 4000000 in
theorem law0_Rx_L2_ok {n : Int} {i : Int} {x : T.Rx} {r : (Int)} (h : law0_Rx_L2 (n, i, x) = some r) :
    O.loop 26 2 ⟨[(1, AV.pv (PV.int IntKind.i64 n)), (2, AV.ptr 0 0), (6, AV.pv (PV.int IntKind.i64 i))], [(0, Blk.box (List.map AV.pv (T.Rx.enc x)))], 1⟩ = some (Ex.normal, ⟨[(1, AV.pv (PV.int IntKind.i64 r))], [(0, Blk.box (List.map AV.pv (T.Rx.enc x)))], 1⟩) := law0_Rx_all.2 (n, i, x) r h
def law0_FmtsLeft_L0_enc : ((Int × Int) ⊕ (Int)) → Ex × St
  | .inl y => (Ex.ret, ⟨[(1, AV.pv (PV.int IntKind.i64 y.1)), (4, AV.pv (PV.int IntKind.i64 y.2))], [], 0⟩)
  | .inr y => (Ex.normal, ⟨[(1, AV.pv (PV.int IntKind.i64 y)), (4, AV.undef)], [], 0⟩)
set_option maxHeartbeats 4000000 in
theorem law0_FmtsLeft_L0_ok {fs : (Sl T.Fmt)} {n : Int} {i : Int} {r : ((Int × Int) ⊕ (Int))} (h : law0_FmtsLeft_L0 (fs, n, i) = some r) :
    O.loop 27 0 ⟨[(0, AV.pv (PV.sl fs.nil (szc 5 fs.l) (List.map T.Fmt.enc fs.l))), (1, AV.pv (PV.int IntKind.i64 n)), (5, AV.pv (PV.int IntKind.i64 i))], [], 0⟩ = some (law0_FmtsLeft_L0_enc r) := by
  refine law0_FmtsLeft_L0.partial_correctness (fun p r => O.loop 27 0 ⟨[(0, AV.pv (PV.sl p.1.nil (szc 5 p.1.l) (List.map T.Fmt.enc p.1.l))), (1, AV.pv (PV.int IntKind.i64 p.2.1)), (5, AV.pv (PV.int IntKind.i64 p.2.2))], [], 0⟩ = some (law0_FmtsLeft_L0_enc r)) ?_ (fs, n, i) r h
  clear h r fs n i
  intro law0_FmtsLeft_L0 ih8
  rintro ⟨fs, n, i⟩ r h
  dsimp only at h ⊢
  by_cases h1 : (decide (i < (fs.l.length : Int))) = true
  rw [if_pos h1] at h
  obtain ⟨x3, h2, h⟩ := Option.bind_eq_some_iff.1 h
  have f1 := geti_nat h2 IntKind.i64
  have f2 := geti_map T.Fmt.enc h2
  try simp only [T.Fmt.enc_eq, encx.down, Nat.zero_add, Nat.reduceAdd] at f2
  have f3 := geti_szcT h2 5
  by_cases h4 : (decide ((x3.thn.length : Int) ≥ n)) = true
  rw [if_pos h4] at h
  cases h
  show _ = some (law0_FmtsLeft_L0_enc (.inl _))
  dsimp only [law0_FmtsLeft_L0_enc]
  clear ih8
  rotate_left
  rw [if_neg h4] at h; replace h4 := Bool.eq_false_iff.2 h4
  by_cases h5 : (decide ((x3.els.length : Int) ≥ n)) = true
  rw [if_pos h5] at h
  cases h
  show _ = some (law0_FmtsLeft_L0_enc (.inl _))
  dsimp only [law0_FmtsLeft_L0_enc]
  clear ih8
  rotate_left
  rw [if_neg h5] at h; replace h5 := Bool.eq_false_iff.2 h5
  have f4 := ih8 _ _ h
  try dsimp only at f4
  try simp only [T.Fmt.enc_eq, encx.down, Nat.zero_add, Nat.reduceAdd] at f4
  clear h
  clear ih8
  rotate_left
  rw [if_neg h1] at h; replace h1 := Bool.eq_false_iff.2 h1
  cases h
  show _ = some (law0_FmtsLeft_L0_enc (.inr _))
  dsimp only [law0_FmtsLeft_L0_enc]
  clear ih8
  rotate_left
  all_goals
    refine omega_L fn27 (by rfl) ?_
    simp (disch := first | assumption | rfl | exact Sure.mk (by kernel_rfl)) only [go_sem, coreG.down, tab.down, ↓reduceIte, Nat.reduceLeDiff, Nat.reduceEqDiff, Nat.reduceLT, Nat.reduceAdd, Nat.reduceSub, Nat.reduceMul, reduceCtorEq, Nat.reducePow, sp27_0, T.Fmt.enc_eq, *]
set_option maxHeartbeats 4000000 in
theorem law0_FmtsLeft_ok {fs : (Sl T.Fmt)} {n : Int} {r : (Int)} (h : law0_FmtsLeft fs n = some r) :
    O.call 27 [AV.pv (PV.sl fs.nil (szc 5 fs.l) (List.map T.Fmt.enc fs.l)), AV.pv (PV.int IntKind.i64 n)] [] = some (AV.pv (PV.int IntKind.i64 r), []) := by
  unfold law0_FmtsLeft at h
  obtain ⟨v2, h1, h⟩ := Option.bind_eq_some_iff.1 h
  have f1 := law0_FmtsLeft_L0_ok h1
  try simp only [T.Fmt.enc_eq, encx.down, Nat.zero_add, Nat.reduceAdd] at f1
  rcases v2 with y3 | y4
  dsimp only at h
  simp only [law0_FmtsLeft_L0_enc, T.Fmt.enc_eq, encx.down, Nat.zero_add, Nat.reduceAdd] at f1
  cases h
  rotate_left
  dsimp only at h
  simp only [law0_FmtsLeft_L0_enc, T.Fmt.enc_eq, encx.down, Nat.zero_add, Nat.reduceAdd] at f1
  cases h
  rotate_left
  all_goals
    refine omega_F rfl fn27 (by rfl) (by rfl) rfl ?_
    simp (disch := first | assumption | rfl | exact Sure.mk (by kernel_rfl)) only [go_sem, coreG.down, tab.down, ↓reduceIte, Nat.reduceLeDiff, Nat.reduceEqDiff, Nat.reduceLT, Nat.reduceAdd, Nat.reduceSub, Nat.reduceMul, reduceCtorEq, Nat.reducePow, sp27_0, T.Fmt.enc_eq, *]
set_option maxHeartbeats 4000000 in
theorem law0_Form_ok {f : T.Form} {n : Int} {r : (Int)} (h : law0_Form f n = some r) :
    O.call 15 [AV.pv (PV.agg (T.Form.enc f)), AV.pv (PV.int IntKind.i64 n)] [] = some (AV.pv (PV.int IntKind.i64 r), []) := by
  unfold law0_Form at h
  obtain ⟨v2, h1, h⟩ := Option.bind_eq_some_iff.1 h
  have f1 := law0_Rx_ok h1
  try simp only [T.Rx.enc_eq, encx.down, Nat.zero_add, Nat.reduceAdd] at f1
  by_cases h3 : (decide (v2 < (0 : Int))) = true
  rw [if_pos h3] at h
  cases h
  rotate_left
  rw [if_neg h3] at h; replace h3 := Bool.eq_false_iff.2 h3
  obtain ⟨v5, h4, h⟩ := Option.bind_eq_some_iff.1 h
  have f2 := law0_FmtsLeft_ok h4
  try simp only [T.Fmt.enc_eq, encx.down, Nat.zero_add, Nat.reduceAdd] at f2
  cases h
  rotate_left
  all_goals
    refine omega_F rfl fn15 (by rfl) (by rfl) rfl ?_
    simp (disch := first | assumption | rfl | exact Sure.mk (by kernel_rfl)) only [go_sem, coreG.down, tab.down, ↓reduceIte, Nat.reduceLeDiff, Nat.reduceEqDiff, Nat.reduceLT, Nat.reduceAdd, Nat.reduceSub, Nat.reduceMul, reduceCtorEq, Nat.reducePow, T.Form.enc_eq, *]
def law0_Snips_L2_enc (l : (Sl T.Snip)) (i : Int) : ((Int × Int) ⊕ (Int)) → Ex × St
  | .inl y => (Ex.ret, ⟨[(0, AV.pv (PV.sl l.nil (szc 18 l.l) (List.map T.Snip.enc l.l))), (1, AV.pv (PV.int IntKind.i64 y.1)), (4, AV.pv (PV.int IntKind.i64 y.2)), (5, AV.pv (PV.int IntKind.i64 i))], [], 0⟩)
  | .inr y => (Ex.normal, ⟨[(0, AV.pv (PV.sl l.nil (szc 18 l.l) (List.map T.Snip.enc l.l))), (1, AV.pv (PV.int IntKind.i64 y)), (4, AV.undef), (5, AV.pv (PV.int IntKind.i64 i))], [], 0⟩)
set_option maxHeartbeats 4000000 in
theorem law0_Snips_L2_ok {l : (Sl T.Snip)} {n : Int} {i : Int} {k : Int} {r : ((Int × Int) ⊕ (Int))} (h : law0_Snips_L2 (l, n, i, k) = some r) :
    O.loop 4 2 ⟨[(0, AV.pv (PV.sl l.nil (szc 18 l.l) (List.map T.Snip.enc l.l))), (1, AV.pv (PV.int IntKind.i64 n)), (5, AV.pv (PV.int IntKind.i64 i)), (6, AV.pv (PV.int IntKind.i64 k))], [], 0⟩ = some (law0_Snips_L2_enc l i r) := by
  refine law0_Snips_L2.partial_correctness (fun p r => O.loop 4 2 ⟨[(0, AV.pv (PV.sl p.1.nil (szc 18 p.1.l) (List.map T.Snip.enc p.1.l))), (1, AV.pv (PV.int IntKind.i64 p.2.1)), (5, AV.pv (PV.int IntKind.i64 p.2.2.1)), (6, AV.pv (PV.int IntKind.i64 p.2.2.2))], [], 0⟩ = some (law0_Snips_L2_enc p.1 p.2.2.1 r)) ?_ (l, n, i, k) r h
  clear h r l n i k
  intro law0_Snips_L2 ih9
  rintro ⟨l, n, i, k⟩ r h
  dsimp only at h ⊢
  obtain ⟨x2, h1, h⟩ := Option.bind_eq_some_iff.1 h
  have f1 := geti_nat h1 IntKind.i64
  have f2 := geti_map T.Snip.enc h1
  try simp only [T.Snip.enc_eq, encx.down, Nat.zero_add, Nat.reduceAdd] at f2
  have f3 := geti_szcT h1 18
  by_cases h3 : (decide (k < (x2.opts.l.length : Int))) = true
  rw [if_pos h3] at h
  obtain ⟨x5, h4, h⟩ := Option.bind_eq_some_iff.1 h
  have f4 := geti_nat h4 IntKind.i64
  have f5 := geti_map strE h4
  try simp only [strE, encx.down, Nat.zero_add, Nat.reduceAdd] at f5
  have f6 := geti_szcT h4 1
  by_cases h6 : (decide ((x5.length : Int) ≥ n)) = true
  rw [if_pos h6] at h
  cases h
  show _ = some (law0_Snips_L2_enc _ _ (.inl _))
  dsimp only [law0_Snips_L2_enc]
  clear ih9
  rotate_left
  rw [if_neg h6] at h; replace h6 := Bool.eq_false_iff.2 h6
  have f7 := ih9 _ _ h
  try dsimp only at f7
  try simp only [T.Snip.enc_eq, encx.down, Nat.zero_add, Nat.reduceAdd] at f7
  clear h
  clear ih9
  rotate_left
  rw [if_neg h3] at h; replace h3 := Bool.eq_false_iff.2 h3
  cases h
  show _ = some (law0_Snips_L2_enc _ _ (.inr _))
  dsimp only [law0_Snips_L2_enc]
  clear ih9
  rotate_left
  all_goals
    refine omega_L fn4 (by rfl) ?_
    simp (disch := first | assumption | rfl | exact Sure.mk (by kernel_rfl)) only [go_sem, coreG.down, tab.down, ↓reduceIte, Nat.reduceLeDiff, Nat.reduceEqDiff, Nat.reduceLT, Nat.reduceAdd, Nat.reduceSub, Nat.reduceMul, reduceCtorEq, Nat.reducePow, sp4_0, sp4_2, T.Snip.enc_eq, *]
def law0_Snips_L0_enc : ((Int × Int) ⊕ (Int)) → Ex × St
  | .inl y => (Ex.ret, ⟨[(1, AV.pv (PV.int IntKind.i64 y.1)), (4, AV.pv (PV.int IntKind.i64 y.2))], [], 0⟩)
  | .inr y => (Ex.normal, ⟨[(1, AV.pv (PV.int IntKind.i64 y)), (4, AV.undef)], [], 0⟩)
set_option maxHeartbeats 4000000 in
theorem law0_Snips_all : (∀ p r, law0_Snips p = some r → O.call 4 [AV.pv (PV.sl p.1.nil (szc 18 p.1.l) (List.map T.Snip.enc p.1.l)), AV.pv (PV.int IntKind.i64 p.2)] [] = some (AV.pv (PV.int IntKind.i64 r), [])) ∧ (∀ p r, law0_Snips_L0 p = some r → O.loop 4 0 ⟨[(0, AV.pv (PV.sl p.1.nil (szc 18 p.1.l) (List.map T.Snip.enc p.1.l))), (1, AV.pv (PV.int IntKind.i64 p.2.1)), (5, AV.pv (PV.int IntKind.i64 p.2.2))], [], 0⟩ = some (law0_Snips_L0_enc r)) := by
  refine law0_Snips.mutual_partial_correctness (fun p r => O.call 4 [AV.pv (PV.sl p.1.nil (szc 18 p.1.l) (List.map T.Snip.enc p.1.l)), AV.pv (PV.int IntKind.i64 p.2)] [] = some (AV.pv (PV.int IntKind.i64 r), [])) (fun p r => O.loop 4 0 ⟨[(0, AV.pv (PV.sl p.1.nil (szc 18 p.1.l) (List.map T.Snip.enc p.1.l))), (1, AV.pv (PV.int IntKind.i64 p.2.1)), (5, AV.pv (PV.int IntKind.i64 p.2.2))], [], 0⟩ = some (law0_Snips_L0_enc r)) ?_ ?_
  · intro law0_Snips_L0 ih2
    rintro ⟨l, n⟩ r h
    dsimp only at h ⊢
    obtain ⟨v2, h1, h⟩ := Option.bind_eq_some_iff.1 h
    have f1 := ih2 _ _ h1
    try dsimp only at f1
    try simp only [T.Snip.enc_eq, encx.down, Nat.zero_add, Nat.reduceAdd] at f1
    rcases v2 with y3 | y4
    dsimp only at h
    simp only [law0_Snips_L0_enc, T.Snip.enc_eq, encx.down, Nat.zero_add, Nat.reduceAdd] at f1
    cases h
    clear ih2
    rotate_left
    dsimp only at h
    simp only [law0_Snips_L0_enc, T.Snip.enc_eq, encx.down, Nat.zero_add, Nat.reduceAdd] at f1
    cases h
    clear ih2
    rotate_left
    all_goals
      refine omega_F rfl fn4 (by rfl) (by rfl) rfl ?_
      simp (disch := first | assumption | rfl | exact Sure.mk (by kernel_rfl)) only [go_sem, coreG.down, tab.down, ↓reduceIte, Nat.reduceLeDiff, Nat.reduceEqDiff, Nat.reduceLT, Nat.reduceAdd, Nat.reduceSub, Nat.reduceMul, reduceCtorEq, Nat.reducePow, sp4_0, sp4_2, T.Snip.enc_eq, *]
  · intro law0_Snips law0_Snips_L0 ih1 ih2
    rintro ⟨l, n, i⟩ r h
    dsimp only at h ⊢
    by_cases g1 : ((decide (i < (l.l.length : Int))) && (decide (n ≥ (0 : Int)))) = true
    rw [if_pos g1] at h
    rcases (by intro u0 u1; cases u0 <;> cases u1 <;> simp [Dum] : ∀ u0 u1 : Bool, (u0 && u1) = true → (u0 = true ∧ u1 = true)) (decide (i < (l.l.length : Int))) (decide (n ≥ (0 : Int))) g1 with ⟨h1, h2⟩
    clear g1
    obtain ⟨x4, h3, h⟩ := Option.bind_eq_some_iff.1 h
    have f2 := geti_nat h3 IntKind.i64
    have f3 := geti_map T.Snip.enc h3
    try simp only [T.Snip.enc_eq, encx.down, Nat.zero_add, Nat.reduceAdd] at f3
    have f4 := geti_szcT h3 18
    by_cases h5 : (decide ((x4.text.length : Int) ≥ n)) = true
    rw [if_pos h5] at h
    cases h
    show _ = some (law0_Snips_L0_enc (.inl _))
    dsimp only [law0_Snips_L0_enc]
    clear ih1 ih2
    rotate_left
    rw [if_neg h5] at h; replace h5 := Bool.eq_false_iff.2 h5
    by_cases h6 : (decide ((x4.opts.l.length : Int) ≥ n)) = true
    rw [if_pos h6] at h
    cases h
    show _ = some (law0_Snips_L0_enc (.inl _))
    dsimp only [law0_Snips_L0_enc]
    clear ih1 ih2
    rotate_left
    rw [if_neg h6] at h; replace h6 := Bool.eq_false_iff.2 h6
    obtain ⟨v8, h7, h⟩ := Option.bind_eq_some_iff.1 h
    have f5 := law0_Form_ok h7
    try simp only [T.Form.enc_eq, encx.down, Nat.zero_add, Nat.reduceAdd] at f5
    obtain ⟨v10, h9, h⟩ := Option.bind_eq_some_iff.1 h
    have f6 := law0_Snips_L2_ok h9
    try simp only [T.Snip.enc_eq, encx.down, Nat.zero_add, Nat.reduceAdd] at f6
    rcases v10 with y11 | y12
    dsimp only at h
    simp only [law0_Snips_L2_enc, T.Snip.enc_eq, encx.down, Nat.zero_add, Nat.reduceAdd] at f6
    cases h
    show _ = some (law0_Snips_L0_enc (.inl _))
    dsimp only [law0_Snips_L0_enc]
    clear ih1 ih2
    rotate_left
    dsimp only at h
    simp only [law0_Snips_L2_enc, T.Snip.enc_eq, encx.down, Nat.zero_add, Nat.reduceAdd] at f6
    by_cases h13 : (decide (y12 ≥ (0 : Int))) = true
    rw [if_pos h13] at h
    obtain ⟨v15, h14, h⟩ := Option.bind_eq_some_iff.1 h
    have f7 := ih1 _ _ h14
    try dsimp only at f7
    try simp only [T.Snip.enc_eq, encx.down, Nat.zero_add, Nat.reduceAdd] at f7
    have f8 := ih2 _ _ h
    try dsimp only at f8
    try simp only [T.Snip.enc_eq, encx.down, Nat.zero_add, Nat.reduceAdd] at f8
    clear h
    clear ih1 ih2
    rotate_left
    rw [if_neg h13] at h; replace h13 := Bool.eq_false_iff.2 h13
    have f9 := ih2 _ _ h
    try dsimp only at f9
    try simp only [T.Snip.enc_eq, encx.down, Nat.zero_add, Nat.reduceAdd] at f9
    clear h
    clear ih1 ih2
    rotate_left
    focus
      rw [if_neg g1] at h; replace g1 := Bool.eq_false_iff.2 g1
      rcases (by intro u0 u1; cases u0 <;> cases u1 <;> simp [Dum] : ∀ u0 u1 : Bool, (u0 && u1) = false → (u0 = false ∧ Dum) ∨ (u0 = true ∧ u1 = false)) (decide (i < (l.l.length : Int))) (decide (n ≥ (0 : Int))) g1 with ⟨h1, h2⟩ | ⟨h1, h2⟩
      clear g1
      all_goals
        cases h
        show _ = some (law0_Snips_L0_enc (.inr _))
        dsimp only [law0_Snips_L0_enc]
        clear ih1 ih2
        rotate_left
    rotate_left 2
    all_goals
      refine omega_L fn4 (by rfl) ?_
      simp (disch := first | assumption | rfl | exact Sure.mk (by kernel_rfl)) only [go_sem, coreG.down, tab.down, ↓reduceIte, Nat.reduceLeDiff, Nat.reduceEqDiff, Nat.reduceLT, Nat.reduceAdd, Nat.reduceSub, Nat.reduceMul, reduceCtorEq, Nat.reducePow, sp4_0, sp4_2, T.Snip.enc_eq, *]
set_option maxHeartbeats 4000000 in
theorem law0_Snips_ok {l : (Sl T.Snip)} {n : Int} {r : (Int)} (h : law0_Snips (l, n) = some r) :
    O.call 4 [AV.pv (PV.sl l.nil (szc 18 l.l) (List.map T.Snip.enc l.l)), AV.pv (PV.int IntKind.i64 n)] [] = some (AV.pv (PV.int IntKind.i64 r), []) := law0_Snips_all.1 (l, n) r h
set_option maxHeartbeats 4000000 in
theorem law0_Snips_L0_ok {l : (Sl T.Snip)} {n : Int} {i : Int} {r : ((Int × Int) ⊕ (Int))} (h : law0_Snips_L0 (l, n, i) = some r) :
    O.loop 4 0 ⟨[(0, AV.pv (PV.sl l.nil (szc 18 l.l) (List.map T.Snip.enc l.l))), (1, AV.pv (PV.int IntKind.i64 n)), (5, AV.pv (PV.int IntKind.i64 i))], [], 0⟩ = some (law0_Snips_L0_enc r) := law0_Snips_all.2 (l, n, i) r h
def slices_Equal_LRow_L0_enc : ((Bool) ⊕ (Unit)) → Ex × St
  | .inl y => (Ex.ret, ⟨[(4, AV.pv (PV.bool y))], [], 0⟩)
  | .inr y => (Ex.normal, ⟨[(4, AV.undef)], [], 0⟩)
set_option maxHeartbeats 4000000 in
theorem slices_Equal_LRow_L0_ok {s1 : (Sl T.Row)} {s2 : (Sl T.Row)} {t12 : Int} {t13 : Int} {r : ((Bool) ⊕ (Unit))} (h : slices_Equal_LRow_L0 (s1, s2, t12, t13) = some r) :
    O.loop 73 0 ⟨[(0, AV.pv (PV.sl s1.nil (szc 2 s1.l) (List.map T.Row.enc s1.l))), (1, AV.pv (PV.sl s2.nil (szc 2 s2.l) (List.map T.Row.enc s2.l))), (12, AV.pv (PV.int IntKind.i64 t12)), (13, AV.pv (PV.int IntKind.i64 t13))], [], 0⟩ = some (slices_Equal_LRow_L0_enc r) := by
  refine slices_Equal_LRow_L0.partial_correctness (fun p r => O.loop 73 0 ⟨[(0, AV.pv (PV.sl p.1.nil (szc 2 p.1.l) (List.map T.Row.enc p.1.l))), (1, AV.pv (PV.sl p.2.1.nil (szc 2 p.2.1.l) (List.map T.Row.enc p.2.1.l))), (12, AV.pv (PV.int IntKind.i64 p.2.2.1)), (13, AV.pv (PV.int IntKind.i64 p.2.2.2))], [], 0⟩ = some (slices_Equal_LRow_L0_enc r)) ?_ (s1, s2, t12, t13) r h
  clear h r s1 s2 t12 t13
  intro slices_Equal_LRow_L0 ih19
  rintro ⟨s1, s2, t12, t13⟩ r h
  dsimp only at h ⊢
  by_cases h1 : (decide (t13 < t12)) = true
  rw [if_pos h1] at h
  obtain ⟨x3, h2, h⟩ := Option.bind_eq_some_iff.1 h
  have f1 := geti_nat h2 IntKind.i64
  have f2 := geti_map T.Row.enc h2
  try simp only [T.Row.enc_eq, encx.down, Nat.zero_add, Nat.reduceAdd] at f2
  have f3 := geti_szcT h2 2
  obtain ⟨x5, h4, h⟩ := Option.bind_eq_some_iff.1 h
  have f4 := geti_nat h4 IntKind.i64
  have f5 := geti_map T.Row.enc h4
  try simp only [T.Row.enc_eq, encx.down, Nat.zero_add, Nat.reduceAdd] at f5
  have f6 := geti_szcT h4 2
  by_cases h6 : (!(x3.frm == x5.frm && (x3.to == x5.to))) = true
  rw [if_pos h6] at h
  cases h
  show _ = some (slices_Equal_LRow_L0_enc (.inl _))
  dsimp only [slices_Equal_LRow_L0_enc]
  clear ih19
  rotate_left
  rw [if_neg h6] at h; replace h6 := Bool.eq_false_iff.2 h6
  have f7 := ih19 _ _ h
  try dsimp only at f7
  try simp only [T.Row.enc_eq, encx.down, Nat.zero_add, Nat.reduceAdd] at f7
  clear h
  clear ih19
  rotate_left
  rw [if_neg h1] at h; replace h1 := Bool.eq_false_iff.2 h1
  cases h
  show _ = some (slices_Equal_LRow_L0_enc (.inr _))
  dsimp only [slices_Equal_LRow_L0_enc]
  clear ih19
  rotate_left
  all_goals
    refine omega_L fn73 (by rfl) ?_
    simp (disch := first | assumption | rfl | exact Sure.mk (by kernel_rfl)) only [go_sem, coreG.down, tab.down, ↓reduceIte, Nat.reduceLeDiff, Nat.reduceEqDiff, Nat.reduceLT, Nat.reduceAdd, Nat.reduceSub, Nat.reduceMul, reduceCtorEq, Nat.reducePow, sp73_0, T.Row.enc_eq, *]
set_option maxHeartbeats 4000000 in
theorem slices_Equal_LRow_ok {s1 : (Sl T.Row)} {s2 : (Sl T.Row)} {r : (Bool)} (h : slices_Equal_LRow s1 s2 = some r) :
    O.call 73 [AV.pv (PV.sl s1.nil (szc 2 s1.l) (List.map T.Row.enc s1.l)), AV.pv (PV.sl s2.nil (szc 2 s2.l) (List.map T.Row.enc s2.l))] [] = some (AV.pv (PV.bool r), []) := by
  unfold slices_Equal_LRow at h
  by_cases h1 : ((s1.l.length : Int) != (s2.l.length : Int)) = true
  rw [if_pos h1] at h
  cases h
  rotate_left
  rw [if_neg h1] at h; replace h1 := Bool.eq_false_iff.2 h1
  obtain ⟨v3, h2, h⟩ := Option.bind_eq_some_iff.1 h
  have f1 := slices_Equal_LRow_L0_ok h2
  try simp only [T.Row.enc_eq, encx.down, Nat.zero_add, Nat.reduceAdd] at f1
  rcases v3 with y4 | y5
  dsimp only at h
  simp only [slices_Equal_LRow_L0_enc, T.Row.enc_eq, encx.down, Nat.zero_add, Nat.reduceAdd] at f1
  cases h
  rotate_left
  dsimp only at h
  simp only [slices_Equal_LRow_L0_enc, T.Row.enc_eq, encx.down, Nat.zero_add, Nat.reduceAdd] at f1
  cases h
  rotate_left
  all_goals
    refine omega_F rfl fn73 (by rfl) (by rfl) rfl ?_
    simp (disch := first | assumption | rfl | exact Sure.mk (by kernel_rfl)) only [go_sem, coreG.down, tab.down, ↓reduceIte, Nat.reduceLeDiff, Nat.reduceEqDiff, Nat.reduceLT, Nat.reduceAdd, Nat.reduceSub, Nat.reduceMul, reduceCtorEq, Nat.reducePow, sp73_0, T.Row.enc_eq, *]
def slices_EqualFunc_LRx_rxtree_Same_L0_enc : ((Bool) ⊕ (Unit)) → Ex × St
  | .inl y => (Ex.ret, ⟨[(6, AV.pv (PV.bool y))], [], 0⟩)
  | .inr y => (Ex.normal, ⟨[(6, AV.undef)], [], 0⟩)
set_option maxHeartbeats 4000000 in
theorem rxtree_Same_all : (∀ p r, rxtree_Same p = some r → O.call 56 [AV.pv (PV.agg (T.Rx.enc p.1)), AV.pv (PV.agg (T.Rx.enc p.2))] [] = some (AV.pv (PV.bool r), [])) ∧ (∀ p r, slices_EqualFunc_LRx_rxtree_Same p = some r → O.call 74 [AV.pv (PV.sl p.1.nil (szc 8 p.1.l) (List.map T.Rx.enc p.1.l)), AV.pv (PV.sl p.2.nil (szc 8 p.2.l) (List.map T.Rx.enc p.2.l)), AV.pv (PV.fn 56)] [] = some (AV.pv (PV.bool r), [])) ∧ (∀ p r, slices_EqualFunc_LRx_rxtree_Same_L0 p = some r → O.loop 74 0 ⟨[(1, AV.pv (PV.sl p.1.nil (szc 8 p.1.l) (List.map T.Rx.enc p.1.l))), (2, AV.pv (PV.fn 56)), (15, AV.pv (PV.sl p.2.1.nil (szc 8 p.2.1.l) (List.map T.Rx.enc p.2.1.l))), (16, AV.pv (PV.int IntKind.i64 p.2.2.1)), (17, AV.pv (PV.int IntKind.i64 p.2.2.2))], [], 0⟩ = some (slices_EqualFunc_LRx_rxtree_Same_L0_enc r)) := by
  refine rxtree_Same.mutual_partial_correctness (fun p r => O.call 56 [AV.pv (PV.agg (T.Rx.enc p.1)), AV.pv (PV.agg (T.Rx.enc p.2))] [] = some (AV.pv (PV.bool r), [])) (fun p r => O.call 74 [AV.pv (PV.sl p.1.nil (szc 8 p.1.l) (List.map T.Rx.enc p.1.l)), AV.pv (PV.sl p.2.nil (szc 8 p.2.l) (List.map T.Rx.enc p.2.l)), AV.pv (PV.fn 56)] [] = some (AV.pv (PV.bool r), [])) (fun p r => O.loop 74 0 ⟨[(1, AV.pv (PV.sl p.1.nil (szc 8 p.1.l) (List.map T.Rx.enc p.1.l))), (2, AV.pv (PV.fn 56)), (15, AV.pv (PV.sl p.2.1.nil (szc 8 p.2.1.l) (List.map T.Rx.enc p.2.1.l))), (16, AV.pv (PV.int IntKind.i64 p.2.2.1)), (17, AV.pv (PV.int IntKind.i64 p.2.2.2))], [], 0⟩ = some (slices_EqualFunc_LRx_rxtree_Same_L0_enc r)) ?_ ?_ ?_
  · intro slices_EqualFunc_LRx_rxtree_Same ih20
    rintro ⟨a, b⟩ r h
    dsimp only at h ⊢
    by_cases g1 : ((a.kind == b.kind) && ((a.char == b.char) && (a.not == b.not))) = true
    rw [if_pos g1] at h
    rcases (by intro u0 u1 u2; cases u0 <;> cases u1 <;> cases u2 <;> simp [Dum] : ∀ u0 u1 u2 : Bool, (u0 && (u1 && u2)) = true → (u0 = true ∧ u1 = true ∧ u2 = true)) (a.kind == b.kind) (a.char == b.char) (a.not == b.not) g1 with ⟨h1, h2, h3⟩
    clear g1
    obtain ⟨v5, h4, h⟩ := Option.bind_eq_some_iff.1 h
    have f2 := slices_Equal_LRow_ok h4
    try simp only [T.Row.enc_eq, encx.down, Nat.zero_add, Nat.reduceAdd] at f2
    by_cases g3 : (v5 && ((a.min == b.min) && ((a.max == b.max) && (a.lazy == b.lazy)))) = true
    rw [if_pos g3] at h
    rcases (by intro u0 u1 u2 u3; cases u0 <;> cases u1 <;> cases u2 <;> cases u3 <;> simp [Dum] : ∀ u0 u1 u2 u3 : Bool, (u0 && (u1 && (u2 && u3))) = true → (u0 = true ∧ u1 = true ∧ u2 = true ∧ u3 = true)) v5 (a.min == b.min) (a.max == b.max) (a.lazy == b.lazy) g3 with ⟨h6, h7, h8, h9⟩
    clear g3
    obtain ⟨v11, h10, h⟩ := Option.bind_eq_some_iff.1 h
    have f4 := ih20 _ _ h10
    try dsimp only at f4
    try simp only [T.Rx.enc_eq, encx.down, Nat.zero_add, Nat.reduceAdd] at f4
    try simp only [h6] at f2 f4
    cases h
    clear ih20
    rotate_left
    focus
      rw [if_neg g3] at h; replace g3 := Bool.eq_false_iff.2 g3
      rcases (by intro u0 u1 u2 u3; cases u0 <;> cases u1 <;> cases u2 <;> cases u3 <;> simp [Dum] : ∀ u0 u1 u2 u3 : Bool, (u0 && (u1 && (u2 && u3))) = false → (u0 = false ∧ Dum ∧ Dum ∧ Dum) ∨ (u0 = true ∧ u1 = false ∧ Dum ∧ Dum) ∨ (u0 = true ∧ u1 = true ∧ u2 = false ∧ Dum) ∨ (u0 = true ∧ u1 = true ∧ u2 = true ∧ u3 = false)) v5 (a.min == b.min) (a.max == b.max) (a.lazy == b.lazy) g3 with ⟨h6, h7, h8, h9⟩ | ⟨h6, h7, h8, h9⟩ | ⟨h6, h7, h8, h9⟩ | ⟨h6, h7, h8, h9⟩
      clear g3
      all_goals
        try simp only [h6] at f2
        cases h
        clear ih20
        rotate_left
    rotate_left 4
    focus
      rw [if_neg g1] at h; replace g1 := Bool.eq_false_iff.2 g1
      rcases (by intro u0 u1 u2; cases u0 <;> cases u1 <;> cases u2 <;> simp [Dum] : ∀ u0 u1 u2 : Bool, (u0 && (u1 && u2)) = false → (u0 = false ∧ Dum ∧ Dum) ∨ (u0 = true ∧ u1 = false ∧ Dum) ∨ (u0 = true ∧ u1 = true ∧ u2 = false)) (a.kind == b.kind) (a.char == b.char) (a.not == b.not) g1 with ⟨h1, h2, h3⟩ | ⟨h1, h2, h3⟩ | ⟨h1, h2, h3⟩
      clear g1
      all_goals
        cases h
        clear ih20
        rotate_left
    rotate_left 3
    all_goals
      refine omega_F rfl fn56 (by rfl) (by rfl) rfl ?_
      simp (disch := first | assumption | rfl | exact Sure.mk (by kernel_rfl)) only [go_sem, coreG.down, tab.down, ↓reduceIte, Nat.reduceLeDiff, Nat.reduceEqDiff, Nat.reduceLT, Nat.reduceAdd, Nat.reduceSub, Nat.reduceMul, reduceCtorEq, Nat.reducePow, sp74_0, T.Rx.enc_eq, *]
  · intro slices_EqualFunc_LRx_rxtree_Same_L0 ih21
    rintro ⟨s1, s2⟩ r h
    dsimp only at h ⊢
    by_cases h1 : ((s1.l.length : Int) != (s2.l.length : Int)) = true
    rw [if_pos h1] at h
    cases h
    clear ih21
    rotate_left
    rw [if_neg h1] at h; replace h1 := Bool.eq_false_iff.2 h1
    obtain ⟨v3, h2, h⟩ := Option.bind_eq_some_iff.1 h
    have f1 := ih21 _ _ h2
    try dsimp only at f1
    try simp only [T.Rx.enc_eq, encx.down, Nat.zero_add, Nat.reduceAdd] at f1
    rcases v3 with y4 | y5
    dsimp only at h
    simp only [slices_EqualFunc_LRx_rxtree_Same_L0_enc, T.Rx.enc_eq, encx.down, Nat.zero_add, Nat.reduceAdd] at f1
    cases h
    clear ih21
    rotate_left
    dsimp only at h
    simp only [slices_EqualFunc_LRx_rxtree_Same_L0_enc, T.Rx.enc_eq, encx.down, Nat.zero_add, Nat.reduceAdd] at f1
    cases h
    clear ih21
    rotate_left
    all_goals
      refine omega_F rfl fn74 (by rfl) (by rfl) rfl ?_
      simp (disch := first | assumption | rfl | exact Sure.mk (by kernel_rfl)) only [go_sem, coreG.down, tab.down, ↓reduceIte, Nat.reduceLeDiff, Nat.reduceEqDiff, Nat.reduceLT, Nat.reduceAdd, Nat.reduceSub, Nat.reduceMul, reduceCtorEq, Nat.reducePow, sp74_0, T.Rx.enc_eq, *]
  · intro rxtree_Same slices_EqualFunc_LRx_rxtree_Same_L0 ih17 ih21
    rintro ⟨s2, t15, t16, t17⟩ r h
    dsimp only at h ⊢
    by_cases h1 : (decide (t17 < t16)) = true
    rw [if_pos h1] at h
    obtain ⟨x3, h2, h⟩ := Option.bind_eq_some_iff.1 h
    have f1 := geti_nat h2 IntKind.i64
    have f2 := geti_map T.Rx.enc h2
    try simp only [T.Rx.enc_eq, encx.down, Nat.zero_add, Nat.reduceAdd] at f2
    have f3 := geti_szcT h2 8
    obtain ⟨x5, h4, h⟩ := Option.bind_eq_some_iff.1 h
    have f4 := geti_nat h4 IntKind.i64
    have f5 := geti_map T.Rx.enc h4
    try simp only [T.Rx.enc_eq, encx.down, Nat.zero_add, Nat.reduceAdd] at f5
    have f6 := geti_szcT h4 8
    obtain ⟨v7, h6, h⟩ := Option.bind_eq_some_iff.1 h
    have f7 := ih17 _ _ h6
    try dsimp only at f7
    try simp only [T.Rx.enc_eq, encx.down, Nat.zero_add, Nat.reduceAdd] at f7
    by_cases h8 : (!v7) = true
    rw [if_pos h8] at h
    cases h
    show _ = some (slices_EqualFunc_LRx_rxtree_Same_L0_enc (.inl _))
    dsimp only [slices_EqualFunc_LRx_rxtree_Same_L0_enc]
    clear ih17 ih21
    rotate_left
    rw [if_neg h8] at h; replace h8 := Bool.eq_false_iff.2 h8
    have f8 := ih21 _ _ h
    try dsimp only at f8
    try simp only [T.Rx.enc_eq, encx.down, Nat.zero_add, Nat.reduceAdd] at f8
    clear h
    clear ih17 ih21
    rotate_left
    rw [if_neg h1] at h; replace h1 := Bool.eq_false_iff.2 h1
    cases h
    show _ = some (slices_EqualFunc_LRx_rxtree_Same_L0_enc (.inr _))
    dsimp only [slices_EqualFunc_LRx_rxtree_Same_L0_enc]
    clear ih17 ih21
    rotate_left
    all_goals
      refine omega_L fn74 (by rfl) ?_
      simp (disch := first | assumption | rfl | exact Sure.mk (by kernel_rfl)) only [go_sem, coreG.down, tab.down, ↓reduceIte, Nat.reduceLeDiff, Nat.reduceEqDiff, Nat.reduceLT, Nat.reduceAdd, Nat.reduceSub, Nat.reduceMul, reduceCtorEq, Nat.reducePow, sp74_0, T.Rx.enc_eq, *]
set_option maxHeartbeats 4000000 in
theorem rxtree_Same_ok {a : T.Rx} {b : T.Rx} {r : (Bool)} (h : rxtree_Same (a, b) = some r) :
    O.call 56 [AV.pv (PV.agg (T.Rx.enc a)), AV.pv (PV.agg (T.Rx.enc b))] [] = some (AV.pv (PV.bool r), []) := rxtree_Same_all.1 (a, b) r h
set_option maxHeartbeats 4000000 in
theorem slices_EqualFunc_LRx_rxtree_Same_ok {s1 : (Sl T.Rx)} {s2 : (Sl T.Rx)} {r : (Bool)} (h : slices_EqualFunc_LRx_rxtree_Same (s1, s2) = some r) :
    O.call 74 [AV.pv (PV.sl s1.nil (szc 8 s1.l) (List.map T.Rx.enc s1.l)), AV.pv (PV.sl s2.nil (szc 8 s2.l) (List.map T.Rx.enc s2.l)), AV.pv (PV.fn 56)] [] = some (AV.pv (PV.bool r), []) := rxtree_Same_all.2.1 (s1, s2) r h
set_option maxHeartbeats 4000000 in
theorem slices_EqualFunc_LRx_rxtree_Same_L0_ok {s2 : (Sl T.Rx)} {t15 : (Sl T.Rx)} {t16 : Int} {t17 : Int} {r : ((Bool) ⊕ (Unit))} (h : slices_EqualFunc_LRx_rxtree_Same_L0 (s2, t15, t16, t17) = some r) :
    O.loop 74 0 ⟨[(1, AV.pv (PV.sl s2.nil (szc 8 s2.l) (List.map T.Rx.enc s2.l))), (2, AV.pv (PV.fn 56)), (15, AV.pv (PV.sl t15.nil (szc 8 t15.l) (List.map T.Rx.enc t15.l))), (16, AV.pv (PV.int IntKind.i64 t16)), (17, AV.pv (PV.int IntKind.i64 t17))], [], 0⟩ = some (slices_EqualFunc_LRx_rxtree_Same_L0_enc r) := rxtree_Same_all.2.2 (s2, t15, t16, t17) r h
def slices_Equal_LFmt_L0_enc : ((Bool) ⊕ (Unit)) → Ex × St
  | .inl y => (Ex.ret, ⟨[(4, AV.pv (PV.bool y))], [], 0⟩)
  | .inr y => (Ex.normal, ⟨[(4, AV.undef)], [], 0⟩)
set_option maxHeartbeats 4000000 in
theorem slices_Equal_LFmt_L0_ok {s1 : (Sl T.Fmt)} {s2 : (Sl T.Fmt)} {t12 : Int} {t13 : Int} {r : ((Bool) ⊕ (Unit))} (h : slices_Equal_LFmt_L0 (s1, s2, t12, t13) = some r) :
    O.loop 57 0 ⟨[(0, AV.pv (PV.sl s1.nil (szc 5 s1.l) (List.map T.Fmt.enc s1.l))), (1, AV.pv (PV.sl s2.nil (szc 5 s2.l) (List.map T.Fmt.enc s2.l))), (12, AV.pv (PV.int IntKind.i64 t12)), (13, AV.pv (PV.int IntKind.i64 t13))], [], 0⟩ = some (slices_Equal_LFmt_L0_enc r) := by
  refine slices_Equal_LFmt_L0.partial_correctness (fun p r => O.loop 57 0 ⟨[(0, AV.pv (PV.sl p.1.nil (szc 5 p.1.l) (List.map T.Fmt.enc p.1.l))), (1, AV.pv (PV.sl p.2.1.nil (szc 5 p.2.1.l) (List.map T.Fmt.enc p.2.1.l))), (12, AV.pv (PV.int IntKind.i64 p.2.2.1)), (13, AV.pv (PV.int IntKind.i64 p.2.2.2))], [], 0⟩ = some (slices_Equal_LFmt_L0_enc r)) ?_ (s1, s2, t12, t13) r h
  clear h r s1 s2 t12 t13
  intro slices_Equal_LFmt_L0 ih23
  rintro ⟨s1, s2, t12, t13⟩ r h
  dsimp only at h ⊢
  by_cases h1 : (decide (t13 < t12)) = true
  rw [if_pos h1] at h
  obtain ⟨x3, h2, h⟩ := Option.bind_eq_some_iff.1 h
  have f1 := geti_nat h2 IntKind.i64
  have f2 := geti_map T.Fmt.enc h2
  try simp only [T.Fmt.enc_eq, encx.down, Nat.zero_add, Nat.reduceAdd] at f2
  have f3 := geti_szcT h2 5
  obtain ⟨x5, h4, h⟩ := Option.bind_eq_some_iff.1 h
  have f4 := geti_nat h4 IntKind.i64
  have f5 := geti_map T.Fmt.enc h4
  try simp only [T.Fmt.enc_eq, encx.down, Nat.zero_add, Nat.reduceAdd] at f5
  have f6 := geti_szcT h4 5
  by_cases h6 : (!(x3.kind == x5.kind && (x3.n == x5.n && (x3.cas == x5.cas && (x3.thn == x5.thn && (x3.els == x5.els)))))) = true
  rw [if_pos h6] at h
  cases h
  show _ = some (slices_Equal_LFmt_L0_enc (.inl _))
  dsimp only [slices_Equal_LFmt_L0_enc]
  clear ih23
  rotate_left
  rw [if_neg h6] at h; replace h6 := Bool.eq_false_iff.2 h6
  have f7 := ih23 _ _ h
  try dsimp only at f7
  try simp only [T.Fmt.enc_eq, encx.down, Nat.zero_add, Nat.reduceAdd] at f7
  clear h
  clear ih23
  rotate_left
  rw [if_neg h1] at h; replace h1 := Bool.eq_false_iff.2 h1
  cases h
  show _ = some (slices_Equal_LFmt_L0_enc (.inr _))
  dsimp only [slices_Equal_LFmt_L0_enc]
  clear ih23
  rotate_left
  all_goals
    refine omega_L fn57 (by rfl) ?_
    simp (disch := first | assumption | rfl | exact Sure.mk (by kernel_rfl)) only [go_sem, coreG.down, tab.down, ↓reduceIte, Nat.reduceLeDiff, Nat.reduceEqDiff, Nat.reduceLT, Nat.reduceAdd, Nat.reduceSub, Nat.reduceMul, reduceCtorEq, Nat.reducePow, sp57_0, T.Fmt.enc_eq, *]
set_option maxHeartbeats 4000000 in
theorem slices_Equal_LFmt_ok {s1 : (Sl T.Fmt)} {s2 : (Sl T.Fmt)} {r : (Bool)} (h : slices_Equal_LFmt s1 s2 = some r) :
    O.call 57 [AV.pv (PV.sl s1.nil (szc 5 s1.l) (List.map T.Fmt.enc s1.l)), AV.pv (PV.sl s2.nil (szc 5 s2.l) (List.map T.Fmt.enc s2.l))] [] = some (AV.pv (PV.bool r), []) := by
  unfold slices_Equal_LFmt at h
  by_cases h1 : ((s1.l.length : Int) != (s2.l.length : Int)) = true
  rw [if_pos h1] at h
  cases h
  rotate_left
  rw [if_neg h1] at h; replace h1 := Bool.eq_false_iff.2 h1
  obtain ⟨v3, h2, h⟩ := Option.bind_eq_some_iff.1 h
  have f1 := slices_Equal_LFmt_L0_ok h2
  try simp only [T.Fmt.enc_eq, encx.down, Nat.zero_add, Nat.reduceAdd] at f1
  rcases v3 with y4 | y5
  dsimp only at h
  simp only [slices_Equal_LFmt_L0_enc, T.Fmt.enc_eq, encx.down, Nat.zero_add, Nat.reduceAdd] at f1
  cases h
  rotate_left
  dsimp only at h
  simp only [slices_Equal_LFmt_L0_enc, T.Fmt.enc_eq, encx.down, Nat.zero_add, Nat.reduceAdd] at f1
  cases h
  rotate_left
  all_goals
    refine omega_F rfl fn57 (by rfl) (by rfl) rfl ?_
    simp (disch := first | assumption | rfl | exact Sure.mk (by kernel_rfl)) only [go_sem, coreG.down, tab.down, ↓reduceIte, Nat.reduceLeDiff, Nat.reduceEqDiff, Nat.reduceLT, Nat.reduceAdd, Nat.reduceSub, Nat.reduceMul, reduceCtorEq, Nat.reducePow, sp57_0, T.Fmt.enc_eq, *]
set_option maxHeartbeats 4000000 in
theorem xform_Same_ok {f : T.Form} {g : T.Form} {r : (Bool)} (h : xform_Same f g = some r) :
    O.call 43 [AV.pv (PV.agg (T.Form.enc f)), AV.pv (PV.agg (T.Form.enc g))] [] = some (AV.pv (PV.bool r), []) := by
  unfold xform_Same at h
  obtain ⟨v2, h1, h⟩ := Option.bind_eq_some_iff.1 h
  have f1 := rxtree_Same_ok h1
  try simp only [T.Rx.enc_eq, encx.down, Nat.zero_add, Nat.reduceAdd] at f1
  by_cases h3 : v2 = true
  rw [if_pos h3] at h
  obtain ⟨v5, h4, h⟩ := Option.bind_eq_some_iff.1 h
  have f2 := slices_Equal_LFmt_ok h4
  try simp only [T.Fmt.enc_eq, encx.down, Nat.zero_add, Nat.reduceAdd] at f2
  by_cases g3 : (v5 && (f.fold == g.fold)) = true
  rw [if_pos g3] at h
  rcases (by intro u0 u1; cases u0 <;> cases u1 <;> simp [Dum] : ∀ u0 u1 : Bool, (u0 && u1) = true → (u0 = true ∧ u1 = true)) v5 (f.fold == g.fold) g3 with ⟨h6, h7⟩
  clear g3
  try simp only [h3, h6] at f1 f2
  cases h
  rotate_left
  focus
    rw [if_neg g3] at h; replace g3 := Bool.eq_false_iff.2 g3
    rcases (by intro u0 u1; cases u0 <;> cases u1 <;> simp [Dum] : ∀ u0 u1 : Bool, (u0 && u1) = false → (u0 = false ∧ Dum) ∨ (u0 = true ∧ u1 = false)) v5 (f.fold == g.fold) g3 with ⟨h6, h7⟩ | ⟨h6, h7⟩
    clear g3
    all_goals
      try simp only [h3, h6] at f1 f2
      cases h
      rotate_left
  rotate_left 2
  rw [if_neg h3] at h; replace h3 := Bool.eq_false_iff.2 h3
  try simp only [h3] at f1
  cases h
  rotate_left
  all_goals
    refine omega_F rfl fn43 (by rfl) (by rfl) rfl ?_
    simp (disch := first | assumption | rfl | exact Sure.mk (by kernel_rfl)) only [go_sem, coreG.down, tab.down, ↓reduceIte, Nat.reduceLeDiff, Nat.reduceEqDiff, Nat.reduceLT, Nat.reduceAdd, Nat.reduceSub, Nat.reduceMul, reduceCtorEq, Nat.reducePow, T.Form.enc_eq, *]
set_option maxHeartbeats 4000000 in
theorem snode_nothing_ok {x : T.Snip} {r : (Bool)} (h : snode_nothing x = some r) :
    O.call 45 [AV.pv (PV.agg (T.Snip.enc x))] [] = some (AV.pv (PV.bool r), []) := by
  unfold snode_nothing at h
  by_cases g1 : ((!x.has) && ((!x.turned) && ((x.kids.l.length : Int) == (0 : Int)))) = true
  rw [if_pos g1] at h
  rcases (by intro u0 u1 u2; cases u0 <;> cases u1 <;> cases u2 <;> simp [Dum] : ∀ u0 u1 u2 : Bool, (u0 && (u1 && u2)) = true → (u0 = true ∧ u1 = true ∧ u2 = true)) (!x.has) (!x.turned) ((x.kids.l.length : Int) == (0 : Int)) g1 with ⟨h1, h2, h3⟩
  clear g1
  obtain ⟨v5, h4, h⟩ := Option.bind_eq_some_iff.1 h
  have f2 := xform_Same_ok h4
  try simp only [T.Form.enc_eq, encx.down, Nat.zero_add, Nat.reduceAdd] at f2
  cases h
  rotate_left
  focus
    rw [if_neg g1] at h; replace g1 := Bool.eq_false_iff.2 g1
    rcases (by intro u0 u1 u2; cases u0 <;> cases u1 <;> cases u2 <;> simp [Dum] : ∀ u0 u1 u2 : Bool, (u0 && (u1 && u2)) = false → (u0 = false ∧ Dum ∧ Dum) ∨ (u0 = true ∧ u1 = false ∧ Dum) ∨ (u0 = true ∧ u1 = true ∧ u2 = false)) (!x.has) (!x.turned) ((x.kids.l.length : Int) == (0 : Int)) g1 with ⟨h1, h2, h3⟩ | ⟨h1, h2, h3⟩ | ⟨h1, h2, h3⟩
    clear g1
    all_goals
      cases h
      rotate_left
  rotate_left 3
  all_goals
    refine omega_F rfl fn45 (by rfl) (by rfl) rfl ?_
    simp (disch := first | assumption | rfl | exact Sure.mk (by kernel_rfl)) only [go_sem, coreG.down, tab.down, ↓reduceIte, Nat.reduceLeDiff, Nat.reduceEqDiff, Nat.reduceLT, Nat.reduceAdd, Nat.reduceSub, Nat.reduceMul, reduceCtorEq, Nat.reducePow, T.Snip.enc_eq, *]
set_option maxHeartbeats 4000000 in
theorem rxtree_group_ok {kind : Int} {r : (Bool)} (h : rxtree_group kind = some r) :
    O.call 94 [AV.pv (PV.int IntKind.i64 kind)] [] = some (AV.pv (PV.bool r), []) := by
  unfold rxtree_group at h
  by_cases h1 : (kind == (5 : Int)) = true
  rw [if_pos h1] at h
  cases h
  rotate_left
  rw [if_neg h1] at h; replace h1 := Bool.eq_false_iff.2 h1
  cases h
  rotate_left
  all_goals
    refine omega_F rfl fn94 (by rfl) (by rfl) rfl ?_
    simp (disch := first | assumption | rfl | exact Sure.mk (by kernel_rfl)) only [go_sem, coreG.down, tab.down, ↓reduceIte, Nat.reduceLeDiff, Nat.reduceEqDiff, Nat.reduceLT, Nat.reduceAdd, Nat.reduceSub, Nat.reduceMul, reduceCtorEq, Nat.reducePow, *]
set_option maxHeartbeats 4000000 in
theorem rxtree_bare_ok {x : T.Rx} {r : (Bool)} (h : rxtree_bare x = some r) :
    O.call 100 [AV.pv (PV.agg (T.Rx.enc x))] [] = some (AV.pv (PV.bool r), []) := by
  unfold rxtree_bare at h
  by_cases g1 : ((x.char == ([] : Bytes)) && ((!x.not) && (((x.rows.l.length : Int) == (0 : Int)) && ((x.min == (0 : Int)) && (x.max == (0 : Int)))))) = true
  rw [if_pos g1] at h
  rcases (by intro u0 u1 u2 u3 u4; cases u0 <;> cases u1 <;> cases u2 <;> cases u3 <;> cases u4 <;> simp [Dum] : ∀ u0 u1 u2 u3 u4 : Bool, (u0 && (u1 && (u2 && (u3 && u4)))) = true → (u0 = true ∧ u1 = true ∧ u2 = true ∧ u3 = true ∧ u4 = true)) (x.char == ([] : Bytes)) (!x.not) ((x.rows.l.length : Int) == (0 : Int)) (x.min == (0 : Int)) (x.max == (0 : Int)) g1 with ⟨h1, h2, h3, h4, h5⟩
  clear g1
  cases h
  rotate_left
  focus
    rw [if_neg g1] at h; replace g1 := Bool.eq_false_iff.2 g1
    rcases (by intro u0 u1 u2 u3 u4; cases u0 <;> cases u1 <;> cases u2 <;> cases u3 <;> cases u4 <;> simp [Dum] : ∀ u0 u1 u2 u3 u4 : Bool, (u0 && (u1 && (u2 && (u3 && u4)))) = false → (u0 = false ∧ Dum ∧ Dum ∧ Dum ∧ Dum) ∨ (u0 = true ∧ u1 = false ∧ Dum ∧ Dum ∧ Dum) ∨ (u0 = true ∧ u1 = true ∧ u2 = false ∧ Dum ∧ Dum) ∨ (u0 = true ∧ u1 = true ∧ u2 = true ∧ u3 = false ∧ Dum) ∨ (u0 = true ∧ u1 = true ∧ u2 = true ∧ u3 = true ∧ u4 = false)) (x.char == ([] : Bytes)) (!x.not) ((x.rows.l.length : Int) == (0 : Int)) (x.min == (0 : Int)) (x.max == (0 : Int)) g1 with ⟨h1, h2, h3, h4, h5⟩ | ⟨h1, h2, h3, h4, h5⟩ | ⟨h1, h2, h3, h4, h5⟩ | ⟨h1, h2, h3, h4, h5⟩ | ⟨h1, h2, h3, h4, h5⟩
    clear g1
    all_goals
      cases h
      rotate_left
  rotate_left 5
  all_goals
    refine omega_F rfl fn100 (by rfl) (by rfl) rfl ?_
    simp (disch := first | assumption | rfl | exact Sure.mk (by kernel_rfl)) only [go_sem, coreG.down, tab.down, ↓reduceIte, Nat.reduceLeDiff, Nat.reduceEqDiff, Nat.reduceLT, Nat.reduceAdd, Nat.reduceSub, Nat.reduceMul, reduceCtorEq, Nat.reducePow, T.Rx.enc_eq, *]
set_option maxHeartbeats 4000000 in
theorem char_inside_ok {c : UInt8} {r : (Bool)} (h : char_inside c = some r) :
    O.call 106 [AV.pv (PV.int IntKind.u8 (c.toNat : Int))] [] = some (AV.pv (PV.bool r), []) := by
  unfold char_inside at h
  by_cases h1 : (decide ((c.toNat : Int) ≥ (128 : Int))) = true
  rw [if_pos h1] at h
  cases h
  rotate_left
  rw [if_neg h1] at h; replace h1 := Bool.eq_false_iff.2 h1
  cases h
  rotate_left
  all_goals
    refine omega_F rfl fn106 (by rfl) (by rfl) rfl ?_
    simp (disch := first | assumption | rfl | exact Sure.mk (by kernel_rfl)) only [go_sem, coreG.down, tab.down, ↓reduceIte, Nat.reduceLeDiff, Nat.reduceEqDiff, Nat.reduceLT, Nat.reduceAdd, Nat.reduceSub, Nat.reduceMul, reduceCtorEq, Nat.reducePow, *]
set_option maxHeartbeats 4000000 in
theorem char_end_L0_ok {s : Bytes} {at_ : Int} {r : (Int)} (h : char_end_L0 (s, at_) = some r) :
    O.loop 107 0 ⟨[(0, AV.pv (PV.str s)), (1, AV.pv (PV.int IntKind.i64 at_))], [], 0⟩ = some (Ex.normal, ⟨[(1, AV.pv (PV.int IntKind.i64 r))], [], 0⟩) := by
  refine char_end_L0.partial_correctness (fun p r => O.loop 107 0 ⟨[(0, AV.pv (PV.str p.1)), (1, AV.pv (PV.int IntKind.i64 p.2))], [], 0⟩ = some (Ex.normal, ⟨[(1, AV.pv (PV.int IntKind.i64 r))], [], 0⟩)) ?_ (s, at_) r h
  clear h r s at_
  intro char_end_L0 ih34
  rintro ⟨s, at_⟩ r h
  dsimp only at h ⊢
  by_cases h1 : (decide (at_ < (s.length : Int))) = true
  rw [if_pos h1] at h
  obtain ⟨b3, h2, h⟩ := Option.bind_eq_some_iff.1 h
  have f1 := geti_nat h2 IntKind.i64
  have f2 := geti_at h2
  obtain ⟨v5, h4, h⟩ := Option.bind_eq_some_iff.1 h
  have f3 := char_inside_ok h4
  try simp only [encx.down, Nat.zero_add, Nat.reduceAdd] at f3
  by_cases h6 : v5 = true
  rw [if_pos h6] at h
  try simp only [h6] at f3
  have f4 := ih34 _ _ h
  try dsimp only at f4
  try simp only [encx.down, Nat.zero_add, Nat.reduceAdd] at f4
  clear h
  try simp only [h6] at f4
  clear ih34
  rotate_left
  rw [if_neg h6] at h; replace h6 := Bool.eq_false_iff.2 h6
  try simp only [h6] at f3
  cases h
  clear ih34
  rotate_left
  rw [if_neg h1] at h; replace h1 := Bool.eq_false_iff.2 h1
  cases h
  clear ih34
  rotate_left
  all_goals
    refine omega_L fn107 (by rfl) ?_
    simp (disch := first | assumption | rfl | exact Sure.mk (by kernel_rfl)) only [go_sem, coreG.down, tab.down, ↓reduceIte, Nat.reduceLeDiff, Nat.reduceEqDiff, Nat.reduceLT, Nat.reduceAdd, Nat.reduceSub, Nat.reduceMul, reduceCtorEq, Nat.reducePow, sp107_0, *]
set_option maxHeartbeats 4000000 in
theorem char_end_ok {s : Bytes} {at_ : Int} {r : (Int)} (h : char_end s at_ = some r) :
    O.call 107 [AV.pv (PV.str s), AV.pv (PV.int IntKind.i64 at_)] [] = some (AV.pv (PV.int IntKind.i64 r), []) := by
  unfold char_end at h
  obtain ⟨v2, h1, h⟩ := Option.bind_eq_some_iff.1 h
  have f1 := char_end_L0_ok h1
  try simp only [encx.down, Nat.zero_add, Nat.reduceAdd] at f1
  cases h
  rotate_left
  all_goals
    refine omega_F rfl fn107 (by rfl) (by rfl) rfl ?_
    simp (disch := first | assumption | rfl | exact Sure.mk (by kernel_rfl)) only [go_sem, coreG.down, tab.down, ↓reduceIte, Nat.reduceLeDiff, Nat.reduceEqDiff, Nat.reduceLT, Nat.reduceAdd, Nat.reduceSub, Nat.reduceMul, reduceCtorEq, Nat.reducePow, sp107_0, *]
set_option maxHeartbeats 4000000 in
theorem char_Proper_ok {c : Bytes} {r : (Bool)} (h : char_Proper c = some r) :
    O.call 101 [AV.pv (PV.str c)] [] = some (AV.pv (PV.bool r), []) := by
  unfold char_Proper at h
  by_cases h1 : (!(c == ([] : Bytes))) = true
  rw [if_pos h1] at h
  obtain ⟨b3, h2, h⟩ := Option.bind_eq_some_iff.1 h
  have f1 := geti_nat h2 IntKind.i64
  have f2 := geti_at h2
  obtain ⟨v5, h4, h⟩ := Option.bind_eq_some_iff.1 h
  have f3 := char_inside_ok h4
  try simp only [encx.down, Nat.zero_add, Nat.reduceAdd] at f3
  by_cases h6 : (!v5) = true
  rw [if_pos h6] at h
  obtain ⟨v8, h7, h⟩ := Option.bind_eq_some_iff.1 h
  have f4 := char_end_ok h7
  try simp only [encx.down, Nat.zero_add, Nat.reduceAdd] at f4
  cases h
  rotate_left
  rw [if_neg h6] at h; replace h6 := Bool.eq_false_iff.2 h6
  cases h
  rotate_left
  rw [if_neg h1] at h; replace h1 := Bool.eq_false_iff.2 h1
  cases h
  rotate_left
  all_goals
    refine omega_F rfl fn101 (by rfl) (by rfl) rfl ?_
    simp (disch := first | assumption | rfl | exact Sure.mk (by kernel_rfl)) only [go_sem, coreG.down, tab.down, ↓reduceIte, Nat.reduceLeDiff, Nat.reduceEqDiff, Nat.reduceLT, Nat.reduceAdd, Nat.reduceSub, Nat.reduceMul, reduceCtorEq, Nat.reducePow, *]
set_option maxHeartbeats 4000000 in
theorem rxset_row_ok {r_ : T.Row} {r : (Bool)} (h : rxset_row r_ = some r) :
    O.call 108 [AV.pv (PV.agg (T.Row.enc r_))] [] = some (AV.pv (PV.bool r), []) := by
  unfold rxset_row at h
  obtain ⟨v2, h1, h⟩ := Option.bind_eq_some_iff.1 h
  have f1 := char_Proper_ok h1
  try simp only [encx.down, Nat.zero_add, Nat.reduceAdd] at f1
  by_cases h3 : v2 = true
  rw [if_pos h3] at h
  obtain ⟨v5, h4, h⟩ := Option.bind_eq_some_iff.1 h
  have f2 := char_Proper_ok h4
  try simp only [encx.down, Nat.zero_add, Nat.reduceAdd] at f2
  by_cases h6 : v5 = true
  rw [if_pos h6] at h
  try simp only [h3, h6] at f1 f2
  cases h
  rotate_left
  rw [if_neg h6] at h; replace h6 := Bool.eq_false_iff.2 h6
  try simp only [h3, h6] at f1 f2
  cases h
  rotate_left
  rw [if_neg h3] at h; replace h3 := Bool.eq_false_iff.2 h3
  try simp only [h3] at f1
  cases h
  rotate_left
  all_goals
    refine omega_F rfl fn108 (by rfl) (by rfl) rfl ?_
    simp (disch := first | assumption | rfl | exact Sure.mk (by kernel_rfl)) only [go_sem, coreG.down, tab.down, ↓reduceIte, Nat.reduceLeDiff, Nat.reduceEqDiff, Nat.reduceLT, Nat.reduceAdd, Nat.reduceSub, Nat.reduceMul, reduceCtorEq, Nat.reducePow, T.Row.enc_eq, *]
def rxset_May_L0_enc : ((Bool) ⊕ (Unit)) → Ex × St
  | .inl y => (Ex.ret, ⟨[(2, AV.pv (PV.bool y))], [], 0⟩)
  | .inr y => (Ex.normal, ⟨[(2, AV.undef)], [], 0⟩)
set_option maxHeartbeats 4000000 in
theorem rxset_May_L0_ok {rows : (Sl T.Row)} {t5 : (Sl T.Row)} {t6 : Int} {t7 : Int} {r : ((Bool) ⊕ (Unit))} (h : rxset_May_L0 (rows, t5, t6, t7) = some r) :
    O.loop 102 0 ⟨[(0, AV.pv (PV.sl rows.nil (szc 2 rows.l) (List.map T.Row.enc rows.l))), (5, AV.pv (PV.sl t5.nil (szc 2 t5.l) (List.map T.Row.enc t5.l))), (6, AV.pv (PV.int IntKind.i64 t6)), (7, AV.pv (PV.int IntKind.i64 t7))], [], 0⟩ = some (rxset_May_L0_enc r) := by
  refine rxset_May_L0.partial_correctness (fun p r => O.loop 102 0 ⟨[(0, AV.pv (PV.sl p.1.nil (szc 2 p.1.l) (List.map T.Row.enc p.1.l))), (5, AV.pv (PV.sl p.2.1.nil (szc 2 p.2.1.l) (List.map T.Row.enc p.2.1.l))), (6, AV.pv (PV.int IntKind.i64 p.2.2.1)), (7, AV.pv (PV.int IntKind.i64 p.2.2.2))], [], 0⟩ = some (rxset_May_L0_enc r)) ?_ (rows, t5, t6, t7) r h
  clear h r rows t5 t6 t7
  intro rxset_May_L0 ih36
  rintro ⟨rows, t5, t6, t7⟩ r h
  dsimp only at h ⊢
  by_cases h1 : (decide (t7 < t6)) = true
  rw [if_pos h1] at h
  obtain ⟨x3, h2, h⟩ := Option.bind_eq_some_iff.1 h
  have f1 := geti_nat h2 IntKind.i64
  have f2 := geti_map T.Row.enc h2
  try simp only [T.Row.enc_eq, encx.down, Nat.zero_add, Nat.reduceAdd] at f2
  have f3 := geti_szcT h2 2
  obtain ⟨v5, h4, h⟩ := Option.bind_eq_some_iff.1 h
  have f4 := rxset_row_ok h4
  try simp only [T.Row.enc_eq, encx.down, Nat.zero_add, Nat.reduceAdd] at f4
  by_cases h6 : (!v5) = true
  rw [if_pos h6] at h
  cases h
  show _ = some (rxset_May_L0_enc (.inl _))
  dsimp only [rxset_May_L0_enc]
  clear ih36
  rotate_left
  rw [if_neg h6] at h; replace h6 := Bool.eq_false_iff.2 h6
  by_cases h7 : (decide (t7 > (0 : Int))) = true
  rw [if_pos h7] at h
  obtain ⟨x9, h8, h⟩ := Option.bind_eq_some_iff.1 h
  have f5 := geti_nat h8 IntKind.i64
  have f6 := geti_map T.Row.enc h8
  try simp only [T.Row.enc_eq, encx.down, Nat.zero_add, Nat.reduceAdd] at f6
  have f7 := geti_szcT h8 2
  by_cases h10 : (bytesLt x3.frm x9.to || x3.frm == x9.to) = true
  rw [if_pos h10] at h
  cases h
  show _ = some (rxset_May_L0_enc (.inl _))
  dsimp only [rxset_May_L0_enc]
  clear ih36
  rotate_left
  rw [if_neg h10] at h; replace h10 := Bool.eq_false_iff.2 h10
  have f8 := ih36 _ _ h
  try dsimp only at f8
  try simp only [T.Row.enc_eq, encx.down, Nat.zero_add, Nat.reduceAdd] at f8
  clear h
  clear ih36
  rotate_left
  rw [if_neg h7] at h; replace h7 := Bool.eq_false_iff.2 h7
  have f9 := ih36 _ _ h
  try dsimp only at f9
  try simp only [T.Row.enc_eq, encx.down, Nat.zero_add, Nat.reduceAdd] at f9
  clear h
  clear ih36
  rotate_left
  rw [if_neg h1] at h; replace h1 := Bool.eq_false_iff.2 h1
  cases h
  show _ = some (rxset_May_L0_enc (.inr _))
  dsimp only [rxset_May_L0_enc]
  clear ih36
  rotate_left
  all_goals
    refine omega_L fn102 (by rfl) ?_
    simp (disch := first | assumption | rfl | exact Sure.mk (by kernel_rfl)) only [go_sem, coreG.down, tab.down, ↓reduceIte, Nat.reduceLeDiff, Nat.reduceEqDiff, Nat.reduceLT, Nat.reduceAdd, Nat.reduceSub, Nat.reduceMul, reduceCtorEq, Nat.reducePow, sp102_0, T.Row.enc_eq, *]
set_option maxHeartbeats 4000000 in
theorem rxset_May_ok {rows : (Sl T.Row)} {r : (Bool)} (h : rxset_May rows = some r) :
    O.call 102 [AV.pv (PV.sl rows.nil (szc 2 rows.l) (List.map T.Row.enc rows.l))] [] = some (AV.pv (PV.bool r), []) := by
  unfold rxset_May at h
  obtain ⟨v2, h1, h⟩ := Option.bind_eq_some_iff.1 h
  have f1 := rxset_May_L0_ok h1
  try simp only [T.Row.enc_eq, encx.down, Nat.zero_add, Nat.reduceAdd] at f1
  rcases v2 with y3 | y4
  dsimp only at h
  simp only [rxset_May_L0_enc, T.Row.enc_eq, encx.down, Nat.zero_add, Nat.reduceAdd] at f1
  cases h
  rotate_left
  dsimp only at h
  simp only [rxset_May_L0_enc, T.Row.enc_eq, encx.down, Nat.zero_add, Nat.reduceAdd] at f1
  cases h
  rotate_left
  all_goals
    refine omega_F rfl fn102 (by rfl) (by rfl) rfl ?_
    simp (disch := first | assumption | rfl | exact Sure.mk (by kernel_rfl)) only [go_sem, coreG.down, tab.down, ↓reduceIte, Nat.reduceLeDiff, Nat.reduceEqDiff, Nat.reduceLT, Nat.reduceAdd, Nat.reduceSub, Nat.reduceMul, reduceCtorEq, Nat.reducePow, sp102_0, T.Row.enc_eq, *]
set_option maxHeartbeats 4000000 in
theorem rxtree_repeated_ok {kind : Int} {r : (Bool)} (h : rxtree_repeated kind = some r) :
    O.call 103 [AV.pv (PV.int IntKind.i64 kind)] [] = some (AV.pv (PV.bool r), []) := by
  unfold rxtree_repeated at h
  by_cases g1 : ((kind == (2 : Int)) || ((kind == (3 : Int)) || ((kind == (4 : Int)) || ((kind == (5 : Int)) || (kind == (6 : Int)))))) = true
  focus
    rw [if_pos g1] at h
    rcases (by intro u0 u1 u2 u3 u4; cases u0 <;> cases u1 <;> cases u2 <;> cases u3 <;> cases u4 <;> simp [Dum] : ∀ u0 u1 u2 u3 u4 : Bool, (u0 || (u1 || (u2 || (u3 || u4)))) = true → (u0 = true ∧ Dum ∧ Dum ∧ Dum ∧ Dum) ∨ (u0 = false ∧ u1 = true ∧ Dum ∧ Dum ∧ Dum) ∨ (u0 = false ∧ u1 = false ∧ u2 = true ∧ Dum ∧ Dum) ∨ (u0 = false ∧ u1 = false ∧ u2 = false ∧ u3 = true ∧ Dum) ∨ (u0 = false ∧ u1 = false ∧ u2 = false ∧ u3 = false ∧ u4 = true)) (kind == (2 : Int)) (kind == (3 : Int)) (kind == (4 : Int)) (kind == (5 : Int)) (kind == (6 : Int)) g1 with ⟨h1, h2, h3, h4, h5⟩ | ⟨h1, h2, h3, h4, h5⟩ | ⟨h1, h2, h3, h4, h5⟩ | ⟨h1, h2, h3, h4, h5⟩ | ⟨h1, h2, h3, h4, h5⟩
    clear g1
    all_goals
      cases h
      rotate_left
  rotate_left 5
  rw [if_neg g1] at h; replace g1 := Bool.eq_false_iff.2 g1
  rcases (by intro u0 u1 u2 u3 u4; cases u0 <;> cases u1 <;> cases u2 <;> cases u3 <;> cases u4 <;> simp [Dum] : ∀ u0 u1 u2 u3 u4 : Bool, (u0 || (u1 || (u2 || (u3 || u4)))) = false → (u0 = false ∧ u1 = false ∧ u2 = false ∧ u3 = false ∧ u4 = false)) (kind == (2 : Int)) (kind == (3 : Int)) (kind == (4 : Int)) (kind == (5 : Int)) (kind == (6 : Int)) g1 with ⟨h1, h2, h3, h4, h5⟩
  clear g1
  cases h
  rotate_left
  all_goals
    refine omega_F rfl fn103 (by rfl) (by rfl) rfl ?_
    simp (disch := first | assumption | rfl | exact Sure.mk (by kernel_rfl)) only [go_sem, coreG.down, tab.down, ↓reduceIte, Nat.reduceLeDiff, Nat.reduceEqDiff, Nat.reduceLT, Nat.reduceAdd, Nat.reduceSub, Nat.reduceMul, reduceCtorEq, Nat.reducePow, *]
def slices_Index_Lint_L0_enc : ((Int) ⊕ (Unit)) → Ex × St
  | .inl y => (Ex.ret, ⟨[(4, AV.pv (PV.int IntKind.i64 y))], [], 0⟩)
  | .inr y => (Ex.normal, ⟨[(4, AV.undef)], [], 0⟩)
set_option maxHeartbeats 4000000 in
theorem slices_Index_Lint_L0_ok {s : (Sl Int)} {v : Int} {t7 : Int} {t8 : Int} {r : ((Int) ⊕ (Unit))} (h : slices_Index_Lint_L0 (s, v, t7, t8) = some r) :
    O.loop 113 0 ⟨[(0, AV.pv (PV.sl s.nil (szc 1 s.l) (List.map intE s.l))), (1, AV.pv (PV.int IntKind.i64 v)), (7, AV.pv (PV.int IntKind.i64 t7)), (8, AV.pv (PV.int IntKind.i64 t8))], [], 0⟩ = some (slices_Index_Lint_L0_enc r) := by
  refine slices_Index_Lint_L0.partial_correctness (fun p r => O.loop 113 0 ⟨[(0, AV.pv (PV.sl p.1.nil (szc 1 p.1.l) (List.map intE p.1.l))), (1, AV.pv (PV.int IntKind.i64 p.2.1)), (7, AV.pv (PV.int IntKind.i64 p.2.2.1)), (8, AV.pv (PV.int IntKind.i64 p.2.2.2))], [], 0⟩ = some (slices_Index_Lint_L0_enc r)) ?_ (s, v, t7, t8) r h
  clear h r s v t7 t8
  intro slices_Index_Lint_L0 ih46
  rintro ⟨s, v, t7, t8⟩ r h
  dsimp only at h ⊢
  by_cases h1 : (decide (t8 < t7)) = true
  rw [if_pos h1] at h
  obtain ⟨x3, h2, h⟩ := Option.bind_eq_some_iff.1 h
  have f1 := geti_nat h2 IntKind.i64
  have f2 := geti_map intE h2
  try simp only [intE, encx.down, Nat.zero_add, Nat.reduceAdd] at f2
  have f3 := geti_szcT h2 1
  by_cases h4 : (v == x3) = true
  rw [if_pos h4] at h
  cases h
  show _ = some (slices_Index_Lint_L0_enc (.inl _))
  dsimp only [slices_Index_Lint_L0_enc]
  clear ih46
  rotate_left
  rw [if_neg h4] at h; replace h4 := Bool.eq_false_iff.2 h4
  have f4 := ih46 _ _ h
  try dsimp only at f4
  try simp only [intE, encx.down, Nat.zero_add, Nat.reduceAdd] at f4
  clear h
  clear ih46
  rotate_left
  rw [if_neg h1] at h; replace h1 := Bool.eq_false_iff.2 h1
  cases h
  show _ = some (slices_Index_Lint_L0_enc (.inr _))
  dsimp only [slices_Index_Lint_L0_enc]
  clear ih46
  rotate_left
  all_goals
    refine omega_L fn113 (by rfl) ?_
    simp (disch := first | assumption | rfl | exact Sure.mk (by kernel_rfl)) only [go_sem, coreG.down, tab.down, ↓reduceIte, Nat.reduceLeDiff, Nat.reduceEqDiff, Nat.reduceLT, Nat.reduceAdd, Nat.reduceSub, Nat.reduceMul, reduceCtorEq, Nat.reducePow, sp113_0, intE, *]
set_option maxHeartbeats 4000000 in
theorem slices_Index_Lint_ok {s : (Sl Int)} {v : Int} {r : (Int)} (h : slices_Index_Lint s v = some r) :
    O.call 113 [AV.pv (PV.sl s.nil (szc 1 s.l) (List.map intE s.l)), AV.pv (PV.int IntKind.i64 v)] [] = some (AV.pv (PV.int IntKind.i64 r), []) := by
  unfold slices_Index_Lint at h
  obtain ⟨v2, h1, h⟩ := Option.bind_eq_some_iff.1 h
  have f1 := slices_Index_Lint_L0_ok h1
  try simp only [intE, encx.down, Nat.zero_add, Nat.reduceAdd] at f1
  rcases v2 with y3 | y4
  dsimp only at h
  simp only [slices_Index_Lint_L0_enc, intE, encx.down, Nat.zero_add, Nat.reduceAdd] at f1
  cases h
  rotate_left
  dsimp only at h
  simp only [slices_Index_Lint_L0_enc, intE, encx.down, Nat.zero_add, Nat.reduceAdd] at f1
  cases h
  rotate_left
  all_goals
    refine omega_F rfl fn113 (by rfl) (by rfl) rfl ?_
    simp (disch := first | assumption | rfl | exact Sure.mk (by kernel_rfl)) only [go_sem, coreG.down, tab.down, ↓reduceIte, Nat.reduceLeDiff, Nat.reduceEqDiff, Nat.reduceLT, Nat.reduceAdd, Nat.reduceSub, Nat.reduceMul, reduceCtorEq, Nat.reducePow, sp113_0, intE, *]
set_option maxHeartbeats 4000000 in
theorem slices_Contains_Lint_ok {s : (Sl Int)} {v : Int} {r : (Bool)} (h : slices_Contains_Lint s v = some r) :
    O.call 111 [AV.pv (PV.sl s.nil (szc 1 s.l) (List.map intE s.l)), AV.pv (PV.int IntKind.i64 v)] [] = some (AV.pv (PV.bool r), []) := by
  unfold slices_Contains_Lint at h
  obtain ⟨v2, h1, h⟩ := Option.bind_eq_some_iff.1 h
  have f1 := slices_Index_Lint_ok h1
  try simp only [intE, encx.down, Nat.zero_add, Nat.reduceAdd] at f1
  cases h
  rotate_left
  all_goals
    refine omega_F rfl fn111 (by rfl) (by rfl) rfl ?_
    simp (disch := first | assumption | rfl | exact Sure.mk (by kernel_rfl)) only [go_sem, coreG.down, tab.down, ↓reduceIte, Nat.reduceLeDiff, Nat.reduceEqDiff, Nat.reduceLT, Nat.reduceAdd, Nat.reduceSub, Nat.reduceMul, reduceCtorEq, Nat.reducePow, intE, *]
set_option maxHeartbeats 4000000 in
theorem rxtree_some_1_ok {x : T.Rx} {b : (Sl Int)} {r : (Bool)} (h : rxtree_some_1 x b = some r) :
    O.call 110 [AV.pv (PV.agg (T.Rx.enc x)), AV.ptr 0 0] [(0, Blk.box [AV.pv (PV.sl b.nil (szc 1 b.l) (List.map intE b.l))])] = some (AV.pv (PV.bool r), [(0, Blk.box [AV.pv (PV.sl b.nil (szc 1 b.l) (List.map intE b.l))])]) := by
  unfold rxtree_some_1 at h
  obtain ⟨v2, h1, h⟩ := Option.bind_eq_some_iff.1 h
  have f1 := slices_Contains_Lint_ok h1
  try simp only [intE, encx.down, Nat.zero_add, Nat.reduceAdd] at f1
  cases h
  rotate_left
  all_goals
    refine omega_F rfl fn110 (by rfl) (by rfl) rfl ?_
    simp (disch := first | assumption | rfl | exact Sure.mk (by kernel_rfl)) only [go_sem, coreG.down, tab.down, ↓reduceIte, Nat.reduceLeDiff, Nat.reduceEqDiff, Nat.reduceLT, Nat.reduceAdd, Nat.reduceSub, Nat.reduceMul, reduceCtorEq, Nat.reducePow, T.Rx.enc_eq, intE, slE, *]
def slices_IndexFunc_LRx_rxtree_some_1_L0_enc (f : (Sl Int)) : ((Int) ⊕ (Unit)) → Ex × St
  | .inl y => (Ex.ret, ⟨[(4, AV.pv (PV.int IntKind.i64 y))], [(0, Blk.box [AV.pv (PV.sl f.nil (szc 1 f.l) (List.map intE f.l))])], 1⟩)
  | .inr y => (Ex.normal, ⟨[(4, AV.undef)], [(0, Blk.box [AV.pv (PV.sl f.nil (szc 1 f.l) (List.map intE f.l))])], 1⟩)
set_option maxHeartbeats 4000000 in
theorem slices_IndexFunc_LRx_rxtree_some_1_L0_ok {s : (Sl T.Rx)} {t7 : Int} {t8 : Int} {f : (Sl Int)} {r : ((Int) ⊕ (Unit))} (h : slices_IndexFunc_LRx_rxtree_some_1_L0 (s, t7, t8, f) = some r) :
    O.loop 112 0 ⟨[(0, AV.pv (PV.sl s.nil (szc 8 s.l) (List.map T.Rx.enc s.l))), (1, AV.clo 110 [] [AV.ptr 0 0]), (7, AV.pv (PV.int IntKind.i64 t7)), (8, AV.pv (PV.int IntKind.i64 t8))], [(0, Blk.box [AV.pv (PV.sl f.nil (szc 1 f.l) (List.map intE f.l))])], 1⟩ = some (slices_IndexFunc_LRx_rxtree_some_1_L0_enc f r) := by
  refine slices_IndexFunc_LRx_rxtree_some_1_L0.partial_correctness (fun p r => O.loop 112 0 ⟨[(0, AV.pv (PV.sl p.1.nil (szc 8 p.1.l) (List.map T.Rx.enc p.1.l))), (1, AV.clo 110 [] [AV.ptr 0 0]), (7, AV.pv (PV.int IntKind.i64 p.2.1)), (8, AV.pv (PV.int IntKind.i64 p.2.2.1))], [(0, Blk.box [AV.pv (PV.sl p.2.2.2.nil (szc 1 p.2.2.2.l) (List.map intE p.2.2.2.l))])], 1⟩ = some (slices_IndexFunc_LRx_rxtree_some_1_L0_enc p.2.2.2 r)) ?_ (s, t7, t8, f) r h
  clear h r s t7 t8 f
  intro slices_IndexFunc_LRx_rxtree_some_1_L0 ih42
  rintro ⟨s, t7, t8, f⟩ r h
  dsimp only at h ⊢
  by_cases h1 : (decide (t8 < t7)) = true
  rw [if_pos h1] at h
  obtain ⟨x3, h2, h⟩ := Option.bind_eq_some_iff.1 h
  have f1 := geti_nat h2 IntKind.i64
  have f2 := geti_map T.Rx.enc h2
  try simp only [T.Rx.enc_eq, encx.down, Nat.zero_add, Nat.reduceAdd] at f2
  have f3 := geti_szcT h2 8
  obtain ⟨v5, h4, h⟩ := Option.bind_eq_some_iff.1 h
  have f4 := rxtree_some_1_ok h4
  try simp only [T.Rx.enc_eq, intE, slE, encx.down, Nat.zero_add, Nat.reduceAdd] at f4
  by_cases h6 : v5 = true
  rw [if_pos h6] at h
  try simp only [h6] at f4
  cases h
  show _ = some (slices_IndexFunc_LRx_rxtree_some_1_L0_enc _ (.inl _))
  dsimp only [slices_IndexFunc_LRx_rxtree_some_1_L0_enc]
  clear ih42
  rotate_left
  rw [if_neg h6] at h; replace h6 := Bool.eq_false_iff.2 h6
  try simp only [h6] at f4
  have f5 := ih42 _ _ h
  try dsimp only at f5
  try simp only [T.Rx.enc_eq, intE, slE, encx.down, Nat.zero_add, Nat.reduceAdd] at f5
  clear h
  try simp only [h6] at f5
  clear ih42
  rotate_left
  rw [if_neg h1] at h; replace h1 := Bool.eq_false_iff.2 h1
  cases h
  show _ = some (slices_IndexFunc_LRx_rxtree_some_1_L0_enc _ (.inr _))
  dsimp only [slices_IndexFunc_LRx_rxtree_some_1_L0_enc]
  clear ih42
  rotate_left
  all_goals
    refine omega_L fn112 (by rfl) ?_
    simp (disch := first | assumption | rfl | exact Sure.mk (by kernel_rfl)) only [go_sem, coreG.down, tab.down, ↓reduceIte, Nat.reduceLeDiff, Nat.reduceEqDiff, Nat.reduceLT, Nat.reduceAdd, Nat.reduceSub, Nat.reduceMul, reduceCtorEq, Nat.reducePow, sp112_0, T.Rx.enc_eq, intE, slE, *]
set_option maxHeartbeats 4000000 in
theorem slices_IndexFunc_LRx_rxtree_some_1_ok {s : (Sl T.Rx)} {b : (Sl Int)} {r : (Int)} (h : slices_IndexFunc_LRx_rxtree_some_1 s b = some r) :
    O.call 112 [AV.pv (PV.sl s.nil (szc 8 s.l) (List.map T.Rx.enc s.l)), AV.clo 110 [] [AV.ptr 0 0]] [(0, Blk.box [AV.pv (PV.sl b.nil (szc 1 b.l) (List.map intE b.l))])] = some (AV.pv (PV.int IntKind.i64 r), [(0, Blk.box [AV.pv (PV.sl b.nil (szc 1 b.l) (List.map intE b.l))])]) := by
  unfold slices_IndexFunc_LRx_rxtree_some_1 at h
  obtain ⟨v2, h1, h⟩ := Option.bind_eq_some_iff.1 h
  have f1 := slices_IndexFunc_LRx_rxtree_some_1_L0_ok h1
  try simp only [T.Rx.enc_eq, intE, slE, encx.down, Nat.zero_add, Nat.reduceAdd] at f1
  rcases v2 with y3 | y4
  dsimp only at h
  simp only [slices_IndexFunc_LRx_rxtree_some_1_L0_enc, T.Rx.enc_eq, intE, slE, encx.down, Nat.zero_add, Nat.reduceAdd] at f1
  cases h
  rotate_left
  dsimp only at h
  simp only [slices_IndexFunc_LRx_rxtree_some_1_L0_enc, T.Rx.enc_eq, intE, slE, encx.down, Nat.zero_add, Nat.reduceAdd] at f1
  cases h
  rotate_left
  all_goals
    refine omega_F rfl fn112 (by rfl) (by rfl) rfl ?_
    simp (disch := first | assumption | rfl | exact Sure.mk (by kernel_rfl)) only [go_sem, coreG.down, tab.down, ↓reduceIte, Nat.reduceLeDiff, Nat.reduceEqDiff, Nat.reduceLT, Nat.reduceAdd, Nat.reduceSub, Nat.reduceMul, reduceCtorEq, Nat.reducePow, sp112_0, T.Rx.enc_eq, intE, slE, *]
set_option maxHeartbeats 4000000 in
theorem slices_ContainsFunc_LRx_rxtree_some_1_ok {s : (Sl T.Rx)} {b : (Sl Int)} {r : (Bool)} (h : slices_ContainsFunc_LRx_rxtree_some_1 s b = some r) :
    O.call 109 [AV.pv (PV.sl s.nil (szc 8 s.l) (List.map T.Rx.enc s.l)), AV.clo 110 [] [AV.ptr 0 0]] [(0, Blk.box [AV.pv (PV.sl b.nil (szc 1 b.l) (List.map intE b.l))])] = some (AV.pv (PV.bool r), [(0, Blk.box [AV.pv (PV.sl b.nil (szc 1 b.l) (List.map intE b.l))])]) := by
  unfold slices_ContainsFunc_LRx_rxtree_some_1 at h
  obtain ⟨v2, h1, h⟩ := Option.bind_eq_some_iff.1 h
  have f1 := slices_IndexFunc_LRx_rxtree_some_1_ok h1
  try simp only [T.Rx.enc_eq, intE, slE, encx.down, Nat.zero_add, Nat.reduceAdd] at f1
  cases h
  rotate_left
  all_goals
    refine omega_F rfl fn109 (by rfl) (by rfl) rfl ?_
    simp (disch := first | assumption | rfl | exact Sure.mk (by kernel_rfl)) only [go_sem, coreG.down, tab.down, ↓reduceIte, Nat.reduceLeDiff, Nat.reduceEqDiff, Nat.reduceLT, Nat.reduceAdd, Nat.reduceSub, Nat.reduceMul, reduceCtorEq, Nat.reducePow, T.Rx.enc_eq, intE, slE, *]
set_option maxHeartbeats 4000000 in
theorem rxtree_some_ok {xs : (Sl T.Rx)} {kinds : (Sl Int)} {r : (Bool)} (h : rxtree_some xs kinds = some r) :
    O.call 104 [AV.pv (PV.sl xs.nil (szc 8 xs.l) (List.map T.Rx.enc xs.l)), AV.pv (PV.sl kinds.nil (szc 1 kinds.l) (List.map intE kinds.l))] [] = some (AV.pv (PV.bool r), []) := by
  unfold rxtree_some at h
  obtain ⟨v2, h1, h⟩ := Option.bind_eq_some_iff.1 h
  have f1 := slices_ContainsFunc_LRx_rxtree_some_1_ok h1
  try simp only [T.Rx.enc_eq, intE, slE, encx.down, Nat.zero_add, Nat.reduceAdd] at f1
  cases h
  rotate_left
  all_goals
    refine omega_F rfl fn104 (by rfl) (by rfl) rfl ?_
    simp (disch := first | assumption | rfl | exact Sure.mk (by kernel_rfl)) only [go_sem, coreG.down, tab.down, ↓reduceIte, Nat.reduceLeDiff, Nat.reduceEqDiff, Nat.reduceLT, Nat.reduceAdd, Nat.reduceSub, Nat.reduceMul, reduceCtorEq, Nat.reducePow, T.Rx.enc_eq, intE, *]
set_option maxHeartbeats 4000000 in
theorem rxtree_fields_ok {x : T.Rx} {r : (Bool)} (h : rxtree_fields x = some r) :
    O.call 95 [AV.pv (PV.agg (T.Rx.enc x))] [] = some (AV.pv (PV.bool r), []) := by
  unfold rxtree_fields at h
  by_cases h1 : (x.kind == (2 : Int)) = true
  rw [if_pos h1] at h
  obtain ⟨v3, h2, h⟩ := Option.bind_eq_some_iff.1 h
  have f1 := rxtree_bare_ok h2
  try simp only [T.Rx.enc_eq, encx.down, Nat.zero_add, Nat.reduceAdd] at f1
  by_cases g2 : (v3 && ((x.kids.l.length : Int) == (0 : Int))) = true
  rw [if_pos g2] at h
  rcases (by intro u0 u1; cases u0 <;> cases u1 <;> simp [Dum] : ∀ u0 u1 : Bool, (u0 && u1) = true → (u0 = true ∧ u1 = true)) v3 ((x.kids.l.length : Int) == (0 : Int)) g2 with ⟨h4, h5⟩
  clear g2
  obtain ⟨v7, h6, h⟩ := Option.bind_eq_some_iff.1 h
  have f3 := char_Proper_ok h6
  try simp only [encx.down, Nat.zero_add, Nat.reduceAdd] at f3
  try simp only [h4] at f1 f3
  cases h
  rotate_left
  focus
    rw [if_neg g2] at h; replace g2 := Bool.eq_false_iff.2 g2
    rcases (by intro u0 u1; cases u0 <;> cases u1 <;> simp [Dum] : ∀ u0 u1 : Bool, (u0 && u1) = false → (u0 = false ∧ Dum) ∨ (u0 = true ∧ u1 = false)) v3 ((x.kids.l.length : Int) == (0 : Int)) g2 with ⟨h4, h5⟩ | ⟨h4, h5⟩
    clear g2
    all_goals
      try simp only [h4] at f1
      cases h
      rotate_left
  rotate_left 2
  rw [if_neg h1] at h; replace h1 := Bool.eq_false_iff.2 h1
  by_cases h8 : (x.kind == (4 : Int)) = true
  rw [if_pos h8] at h
  obtain ⟨v10, h9, h⟩ := Option.bind_eq_some_iff.1 h
  have f4 := rxtree_bare_ok h9
  try simp only [T.Rx.enc_eq, encx.down, Nat.zero_add, Nat.reduceAdd] at f4
  by_cases g5 : (v10 && ((x.kids.l.length : Int) == (0 : Int))) = true
  rw [if_pos g5] at h
  rcases (by intro u0 u1; cases u0 <;> cases u1 <;> simp [Dum] : ∀ u0 u1 : Bool, (u0 && u1) = true → (u0 = true ∧ u1 = true)) v10 ((x.kids.l.length : Int) == (0 : Int)) g5 with ⟨h11, h12⟩
  clear g5
  obtain ⟨v14, h13, h⟩ := Option.bind_eq_some_iff.1 h
  have f6 := rxset_May_ok h13
  try simp only [T.Row.enc_eq, encx.down, Nat.zero_add, Nat.reduceAdd] at f6
  try simp only [h11] at f4 f6
  cases h
  rotate_left
  focus
    rw [if_neg g5] at h; replace g5 := Bool.eq_false_iff.2 g5
    rcases (by intro u0 u1; cases u0 <;> cases u1 <;> simp [Dum] : ∀ u0 u1 : Bool, (u0 && u1) = false → (u0 = false ∧ Dum) ∨ (u0 = true ∧ u1 = false)) v10 ((x.kids.l.length : Int) == (0 : Int)) g5 with ⟨h11, h12⟩ | ⟨h11, h12⟩
    clear g5
    all_goals
      try simp only [h11] at f4
      cases h
      rotate_left
  rotate_left 2
  rw [if_neg h8] at h; replace h8 := Bool.eq_false_iff.2 h8
  by_cases h15 : (x.kind == (7 : Int)) = true
  rw [if_pos h15] at h
  obtain ⟨v17, h16, h⟩ := Option.bind_eq_some_iff.1 h
  have f7 := rxtree_bare_ok h16
  try simp only [T.Rx.enc_eq, encx.down, Nat.zero_add, Nat.reduceAdd] at f7
  by_cases g8 : (v17 && ((x.kids.l.length : Int) == (1 : Int))) = true
  rw [if_pos g8] at h
  rcases (by intro u0 u1; cases u0 <;> cases u1 <;> simp [Dum] : ∀ u0 u1 : Bool, (u0 && u1) = true → (u0 = true ∧ u1 = true)) v17 ((x.kids.l.length : Int) == (1 : Int)) g8 with ⟨h18, h19⟩
  clear g8
  obtain ⟨x21, h20, h⟩ := Option.bind_eq_some_iff.1 h
  have f9 := geti_nat h20 IntKind.i64
  have f10 := geti_map T.Rx.enc h20
  try simp only [T.Rx.enc_eq, encx.down, Nat.zero_add, Nat.reduceAdd] at f10
  have f11 := geti_szcT h20 8
  obtain ⟨v23, h22, h⟩ := Option.bind_eq_some_iff.1 h
  have f12 := rxtree_repeated_ok h22
  try simp only [encx.down, Nat.zero_add, Nat.reduceAdd] at f12
  by_cases g13 : (v23 && ((decide (x.min ≥ (0 : Int))) && (decide (x.min ≤ (255 : Int))))) = true
  rw [if_pos g13] at h
  rcases (by intro u0 u1 u2; cases u0 <;> cases u1 <;> cases u2 <;> simp [Dum] : ∀ u0 u1 u2 : Bool, (u0 && (u1 && u2)) = true → (u0 = true ∧ u1 = true ∧ u2 = true)) v23 (decide (x.min ≥ (0 : Int))) (decide (x.min ≤ (255 : Int))) g13 with ⟨h24, h25, h26⟩
  clear g13
  by_cases h27 : (x.max == ((-1) : Int)) = true
  rw [if_pos h27] at h
  try simp only [h18, h24] at f7 f12
  cases h
  rotate_left
  rw [if_neg h27] at h; replace h27 := Bool.eq_false_iff.2 h27
  by_cases h28 : (decide (x.max ≥ x.min)) = true
  rw [if_pos h28] at h
  try simp only [h18, h24] at f7 f12
  cases h
  rotate_left
  rw [if_neg h28] at h; replace h28 := Bool.eq_false_iff.2 h28
  try simp only [h18, h24] at f7 f12
  cases h
  rotate_left
  focus
    rw [if_neg g13] at h; replace g13 := Bool.eq_false_iff.2 g13
    rcases (by intro u0 u1 u2; cases u0 <;> cases u1 <;> cases u2 <;> simp [Dum] : ∀ u0 u1 u2 : Bool, (u0 && (u1 && u2)) = false → (u0 = false ∧ Dum ∧ Dum) ∨ (u0 = true ∧ u1 = false ∧ Dum) ∨ (u0 = true ∧ u1 = true ∧ u2 = false)) v23 (decide (x.min ≥ (0 : Int))) (decide (x.min ≤ (255 : Int))) g13 with ⟨h24, h25, h26⟩ | ⟨h24, h25, h26⟩ | ⟨h24, h25, h26⟩
    clear g13
    all_goals
      try simp only [h18, h24] at f7 f12
      cases h
      rotate_left
  rotate_left 3
  focus
    rw [if_neg g8] at h; replace g8 := Bool.eq_false_iff.2 g8
    rcases (by intro u0 u1; cases u0 <;> cases u1 <;> simp [Dum] : ∀ u0 u1 : Bool, (u0 && u1) = false → (u0 = false ∧ Dum) ∨ (u0 = true ∧ u1 = false)) v17 ((x.kids.l.length : Int) == (1 : Int)) g8 with ⟨h18, h19⟩ | ⟨h18, h19⟩
    clear g8
    all_goals
      try simp only [h18] at f7
      cases h
      rotate_left
  rotate_left 2
  rw [if_neg h15] at h; replace h15 := Bool.eq_false_iff.2 h15
  by_cases h29 : (x.kind == (0 : Int)) = true
  rw [if_pos h29] at h
  obtain ⟨v31, h30, h⟩ := Option.bind_eq_some_iff.1 h
  have f14 := rxtree_bare_ok h30
  try simp only [T.Rx.enc_eq, encx.down, Nat.zero_add, Nat.reduceAdd] at f14
  by_cases g15 : (v31 && ((x.kids.l.length : Int) != (1 : Int))) = true
  rw [if_pos g15] at h
  rcases (by intro u0 u1; cases u0 <;> cases u1 <;> simp [Dum] : ∀ u0 u1 : Bool, (u0 && u1) = true → (u0 = true ∧ u1 = true)) v31 ((x.kids.l.length : Int) != (1 : Int)) g15 with ⟨h32, h33⟩
  clear g15
  obtain ⟨v35, h34, h⟩ := Option.bind_eq_some_iff.1 h
  have f16 := rxtree_some_ok h34
  try simp only [T.Rx.enc_eq, intE, encx.down, Nat.zero_add, Nat.reduceAdd] at f16
  try simp only [h32] at f14 f16
  cases h
  rotate_left
  focus
    rw [if_neg g15] at h; replace g15 := Bool.eq_false_iff.2 g15
    rcases (by intro u0 u1; cases u0 <;> cases u1 <;> simp [Dum] : ∀ u0 u1 : Bool, (u0 && u1) = false → (u0 = false ∧ Dum) ∨ (u0 = true ∧ u1 = false)) v31 ((x.kids.l.length : Int) != (1 : Int)) g15 with ⟨h32, h33⟩ | ⟨h32, h33⟩
    clear g15
    all_goals
      try simp only [h32] at f14
      cases h
      rotate_left
  rotate_left 2
  rw [if_neg h29] at h; replace h29 := Bool.eq_false_iff.2 h29
  by_cases h36 : (x.kind == (1 : Int)) = true
  rw [if_pos h36] at h
  obtain ⟨v38, h37, h⟩ := Option.bind_eq_some_iff.1 h
  have f17 := rxtree_bare_ok h37
  try simp only [T.Rx.enc_eq, encx.down, Nat.zero_add, Nat.reduceAdd] at f17
  by_cases g18 : (v38 && (decide ((x.kids.l.length : Int) > (1 : Int)))) = true
  rw [if_pos g18] at h
  rcases (by intro u0 u1; cases u0 <;> cases u1 <;> simp [Dum] : ∀ u0 u1 : Bool, (u0 && u1) = true → (u0 = true ∧ u1 = true)) v38 (decide ((x.kids.l.length : Int) > (1 : Int))) g18 with ⟨h39, h40⟩
  clear g18
  obtain ⟨v42, h41, h⟩ := Option.bind_eq_some_iff.1 h
  have f19 := rxtree_some_ok h41
  try simp only [T.Rx.enc_eq, intE, encx.down, Nat.zero_add, Nat.reduceAdd] at f19
  try simp only [h39] at f17 f19
  cases h
  rotate_left
  focus
    rw [if_neg g18] at h; replace g18 := Bool.eq_false_iff.2 g18
    rcases (by intro u0 u1; cases u0 <;> cases u1 <;> simp [Dum] : ∀ u0 u1 : Bool, (u0 && u1) = false → (u0 = false ∧ Dum) ∨ (u0 = true ∧ u1 = false)) v38 (decide ((x.kids.l.length : Int) > (1 : Int))) g18 with ⟨h39, h40⟩ | ⟨h39, h40⟩
    clear g18
    all_goals
      try simp only [h39] at f17
      cases h
      rotate_left
  rotate_left 2
  rw [if_neg h36] at h; replace h36 := Bool.eq_false_iff.2 h36
  by_cases g20 : ((x.kind == (5 : Int)) || (x.kind == (6 : Int))) = true
  focus
    rw [if_pos g20] at h
    rcases (by intro u0 u1; cases u0 <;> cases u1 <;> simp [Dum] : ∀ u0 u1 : Bool, (u0 || u1) = true → (u0 = true ∧ Dum) ∨ (u0 = false ∧ u1 = true)) (x.kind == (5 : Int)) (x.kind == (6 : Int)) g20 with ⟨h43, h47⟩ | ⟨h43, h47⟩
    clear g20
    all_goals
      obtain ⟨v45, h44, h⟩ := Option.bind_eq_some_iff.1 h
      have f21 := rxtree_bare_ok h44
      try simp only [T.Rx.enc_eq, encx.down, Nat.zero_add, Nat.reduceAdd] at f21
      by_cases h46 : v45 = true
      rw [if_pos h46] at h
      try simp only [h46] at f21
      cases h
      rotate_left
      rw [if_neg h46] at h; replace h46 := Bool.eq_false_iff.2 h46
      try simp only [h46] at f21
      cases h
      rotate_left
  rotate_left 4
  rw [if_neg g20] at h; replace g20 := Bool.eq_false_iff.2 g20
  rcases (by intro u0 u1; cases u0 <;> cases u1 <;> simp [Dum] : ∀ u0 u1 : Bool, (u0 || u1) = false → (u0 = false ∧ u1 = false)) (x.kind == (5 : Int)) (x.kind == (6 : Int)) g20 with ⟨h43, h47⟩
  clear g20
  by_cases g22 : ((x.kind == (3 : Int)) || ((x.kind == (8 : Int)) || ((x.kind == (9 : Int)) || ((x.kind == (10 : Int)) || (x.kind == (11 : Int)))))) = true
  focus
    rw [if_pos g22] at h
    rcases (by intro u0 u1 u2 u3 u4; cases u0 <;> cases u1 <;> cases u2 <;> cases u3 <;> cases u4 <;> simp [Dum] : ∀ u0 u1 u2 u3 u4 : Bool, (u0 || (u1 || (u2 || (u3 || u4)))) = true → (u0 = true ∧ Dum ∧ Dum ∧ Dum ∧ Dum) ∨ (u0 = false ∧ u1 = true ∧ Dum ∧ Dum ∧ Dum) ∨ (u0 = false ∧ u1 = false ∧ u2 = true ∧ Dum ∧ Dum) ∨ (u0 = false ∧ u1 = false ∧ u2 = false ∧ u3 = true ∧ Dum) ∨ (u0 = false ∧ u1 = false ∧ u2 = false ∧ u3 = false ∧ u4 = true)) (x.kind == (3 : Int)) (x.kind == (8 : Int)) (x.kind == (9 : Int)) (x.kind == (10 : Int)) (x.kind == (11 : Int)) g22 with ⟨h51, h55, h59, h63, h67⟩ | ⟨h51, h55, h59, h63, h67⟩ | ⟨h51, h55, h59, h63, h67⟩ | ⟨h51, h55, h59, h63, h67⟩ | ⟨h51, h55, h59, h63, h67⟩
    clear g22
    all_goals
      obtain ⟨v53, h52, h⟩ := Option.bind_eq_some_iff.1 h
      have f23 := rxtree_bare_ok h52
      try simp only [T.Rx.enc_eq, encx.down, Nat.zero_add, Nat.reduceAdd] at f23
      by_cases h54 : v53 = true
      rw [if_pos h54] at h
      try simp only [h54] at f23
      cases h
      rotate_left
      rw [if_neg h54] at h; replace h54 := Bool.eq_false_iff.2 h54
      try simp only [h54] at f23
      cases h
      rotate_left
  rotate_left 10
  rw [if_neg g22] at h; replace g22 := Bool.eq_false_iff.2 g22
  rcases (by intro u0 u1 u2 u3 u4; cases u0 <;> cases u1 <;> cases u2 <;> cases u3 <;> cases u4 <;> simp [Dum] : ∀ u0 u1 u2 u3 u4 : Bool, (u0 || (u1 || (u2 || (u3 || u4)))) = false → (u0 = false ∧ u1 = false ∧ u2 = false ∧ u3 = false ∧ u4 = false)) (x.kind == (3 : Int)) (x.kind == (8 : Int)) (x.kind == (9 : Int)) (x.kind == (10 : Int)) (x.kind == (11 : Int)) g22 with ⟨h51, h55, h59, h63, h67⟩
  clear g22
  cases h
  rotate_left
  all_goals
    refine omega_F rfl fn95 (by rfl) (by rfl) rfl ?_
    simp (disch := first | assumption | rfl | exact Sure.mk (by kernel_rfl)) only [go_sem, coreG.down, tab.down, ↓reduceIte, Nat.reduceLeDiff, Nat.reduceEqDiff, Nat.reduceLT, Nat.reduceAdd, Nat.reduceSub, Nat.reduceMul, reduceCtorEq, Nat.reducePow, T.Rx.enc_eq, *]
def rxtree_fits_L0_enc (b0_ : T.Rx) : ((Int × Int × Bool) ⊕ (Int)) → Ex × St
  | .inl y => (Ex.ret, ⟨[(1, AV.pv (PV.int IntKind.i64 y.1)), (6, AV.pv (PV.int IntKind.i64 y.2.1)), (7, AV.pv (PV.bool y.2.2))], [(0, Blk.box (List.map AV.pv (T.Rx.enc b0_)))], 1⟩)
  | .inr y => (Ex.normal, ⟨[(1, AV.pv (PV.int IntKind.i64 y)), (6, AV.undef), (7, AV.undef)], [(0, Blk.box (List.map AV.pv (T.Rx.enc b0_)))], 1⟩)
set_option maxHeartbeats 4000000 in
theorem rxtree_fits_all : (∀ p r, rxtree_fits p = some r → O.call 87 [AV.pv (PV.agg (T.Rx.enc p.1)), AV.pv (PV.int IntKind.i64 p.2.1), AV.pv (PV.int IntKind.i64 p.2.2)] [] = some (AV.tup [AV.pv (PV.int IntKind.i64 r.1), AV.pv (PV.bool r.2)], [])) ∧ (∀ p r, rxtree_fits_L0 p = some r → O.loop 87 0 ⟨[(1, AV.pv (PV.int IntKind.i64 p.1)), (2, AV.pv (PV.int IntKind.i64 p.2.1)), (31, AV.pv (PV.sl p.2.2.1.nil (szc 8 p.2.2.1.l) (List.map T.Rx.enc p.2.2.1.l))), (32, AV.pv (PV.int IntKind.i64 p.2.2.2.1)), (33, AV.pv (PV.int IntKind.i64 p.2.2.2.2.1))], [(0, Blk.box (List.map AV.pv (T.Rx.enc p.2.2.2.2.2)))], 1⟩ = some (rxtree_fits_L0_enc p.2.2.2.2.2 r)) := by
  refine rxtree_fits.mutual_partial_correctness (fun p r => O.call 87 [AV.pv (PV.agg (T.Rx.enc p.1)), AV.pv (PV.int IntKind.i64 p.2.1), AV.pv (PV.int IntKind.i64 p.2.2)] [] = some (AV.tup [AV.pv (PV.int IntKind.i64 r.1), AV.pv (PV.bool r.2)], [])) (fun p r => O.loop 87 0 ⟨[(1, AV.pv (PV.int IntKind.i64 p.1)), (2, AV.pv (PV.int IntKind.i64 p.2.1)), (31, AV.pv (PV.sl p.2.2.1.nil (szc 8 p.2.2.1.l) (List.map T.Rx.enc p.2.2.1.l))), (32, AV.pv (PV.int IntKind.i64 p.2.2.2.1)), (33, AV.pv (PV.int IntKind.i64 p.2.2.2.2.1))], [(0, Blk.box (List.map AV.pv (T.Rx.enc p.2.2.2.2.2)))], 1⟩ = some (rxtree_fits_L0_enc p.2.2.2.2.2 r)) ?_ ?_
  · intro rxtree_fits_L0 ih47
    rintro ⟨x, left, deep⟩ r h
    dsimp only at h ⊢
    obtain ⟨v2, h1, h⟩ := Option.bind_eq_some_iff.1 h
    have f1 := rxtree_group_ok h1
    try simp only [encx.down, Nat.zero_add, Nat.reduceAdd] at f1
    by_cases h3 : v2 = true
    rw [if_pos h3] at h
    by_cases g2 : ((decide (left < (1 : Int))) || (decide ((IntKind.i64.wrap (deep - (1 : Int))) < (0 : Int)))) = true
    focus
      rw [if_pos g2] at h
      rcases (by intro u0 u1; cases u0 <;> cases u1 <;> simp [Dum] : ∀ u0 u1 : Bool, (u0 || u1) = true → (u0 = true ∧ Dum) ∨ (u0 = false ∧ u1 = true)) (decide (left < (1 : Int))) (decide ((IntKind.i64.wrap (deep - (1 : Int))) < (0 : Int))) g2 with ⟨h4, h5⟩ | ⟨h4, h5⟩
      clear g2
      all_goals
        try simp only [h3] at f1
        cases h
        clear ih47
        rotate_left
    rotate_left 2
    rw [if_neg g2] at h; replace g2 := Bool.eq_false_iff.2 g2
    rcases (by intro u0 u1; cases u0 <;> cases u1 <;> simp [Dum] : ∀ u0 u1 : Bool, (u0 || u1) = false → (u0 = false ∧ u1 = false)) (decide (left < (1 : Int))) (decide ((IntKind.i64.wrap (deep - (1 : Int))) < (0 : Int))) g2 with ⟨h4, h5⟩
    clear g2
    obtain ⟨v7, h6, h⟩ := Option.bind_eq_some_iff.1 h
    have f3 := rxtree_fields_ok h6
    try simp only [T.Rx.enc_eq, encx.down, Nat.zero_add, Nat.reduceAdd] at f3
    by_cases h8 : (!v7) = true
    rw [if_pos h8] at h
    try simp only [h3] at f1 f3
    cases h
    clear ih47
    rotate_left
    rw [if_neg h8] at h; replace h8 := Bool.eq_false_iff.2 h8
    obtain ⟨v10, h9, h⟩ := Option.bind_eq_some_iff.1 h
    have f4 := ih47 _ _ h9
    try dsimp only at f4
    try simp only [T.Rx.enc_eq, encx.down, Nat.zero_add, Nat.reduceAdd] at f4
    rcases v10 with y11 | y12
    dsimp only at h
    simp only [rxtree_fits_L0_enc, T.Rx.enc_eq, encx.down, Nat.zero_add, Nat.reduceAdd] at f4
    try simp only [h3] at f1 f3 f4
    cases h
    clear ih47
    rotate_left
    dsimp only at h
    simp only [rxtree_fits_L0_enc, T.Rx.enc_eq, encx.down, Nat.zero_add, Nat.reduceAdd] at f4
    try simp only [h3] at f1 f3 f4
    cases h
    clear ih47
    rotate_left
    rw [if_neg h3] at h; replace h3 := Bool.eq_false_iff.2 h3
    by_cases g5 : ((decide (left < (1 : Int))) || (decide (deep < (0 : Int)))) = true
    focus
      rw [if_pos g5] at h
      rcases (by intro u0 u1; cases u0 <;> cases u1 <;> simp [Dum] : ∀ u0 u1 : Bool, (u0 || u1) = true → (u0 = true ∧ Dum) ∨ (u0 = false ∧ u1 = true)) (decide (left < (1 : Int))) (decide (deep < (0 : Int))) g5 with ⟨h13, h14⟩ | ⟨h13, h14⟩
      clear g5
      all_goals
        try simp only [h3] at f1
        cases h
        clear ih47
        rotate_left
    rotate_left 2
    rw [if_neg g5] at h; replace g5 := Bool.eq_false_iff.2 g5
    rcases (by intro u0 u1; cases u0 <;> cases u1 <;> simp [Dum] : ∀ u0 u1 : Bool, (u0 || u1) = false → (u0 = false ∧ u1 = false)) (decide (left < (1 : Int))) (decide (deep < (0 : Int))) g5 with ⟨h13, h14⟩
    clear g5
    obtain ⟨v16, h15, h⟩ := Option.bind_eq_some_iff.1 h
    have f6 := rxtree_fields_ok h15
    try simp only [T.Rx.enc_eq, encx.down, Nat.zero_add, Nat.reduceAdd] at f6
    by_cases h17 : (!v16) = true
    rw [if_pos h17] at h
    try simp only [h3] at f1 f6
    cases h
    clear ih47
    rotate_left
    rw [if_neg h17] at h; replace h17 := Bool.eq_false_iff.2 h17
    obtain ⟨v19, h18, h⟩ := Option.bind_eq_some_iff.1 h
    have f7 := ih47 _ _ h18
    try dsimp only at f7
    try simp only [T.Rx.enc_eq, encx.down, Nat.zero_add, Nat.reduceAdd] at f7
    rcases v19 with y20 | y21
    dsimp only at h
    simp only [rxtree_fits_L0_enc, T.Rx.enc_eq, encx.down, Nat.zero_add, Nat.reduceAdd] at f7
    try simp only [h3] at f1 f6 f7
    cases h
    clear ih47
    rotate_left
    dsimp only at h
    simp only [rxtree_fits_L0_enc, T.Rx.enc_eq, encx.down, Nat.zero_add, Nat.reduceAdd] at f7
    try simp only [h3] at f1 f6 f7
    cases h
    clear ih47
    rotate_left
    all_goals
      refine omega_F rfl fn87 (by rfl) (by rfl) rfl ?_
      simp (disch := first | assumption | rfl | exact Sure.mk (by kernel_rfl)) only [go_sem, coreG.down, tab.down, ↓reduceIte, Nat.reduceLeDiff, Nat.reduceEqDiff, Nat.reduceLT, Nat.reduceAdd, Nat.reduceSub, Nat.reduceMul, reduceCtorEq, Nat.reducePow, sp87_0, T.Rx.enc_eq, *]
  · intro rxtree_fits rxtree_fits_L0 ih27 ih47
    rintro ⟨left, deep, t31, t32, t33, b0_⟩ r h
    dsimp only at h ⊢
    by_cases h1 : (decide (t33 < t32)) = true
    rw [if_pos h1] at h
    obtain ⟨x3, h2, h⟩ := Option.bind_eq_some_iff.1 h
    have f1 := geti_nat h2 IntKind.i64
    have f2 := geti_map T.Rx.enc h2
    try simp only [T.Rx.enc_eq, encx.down, Nat.zero_add, Nat.reduceAdd] at f2
    have f3 := geti_szcT h2 8
    obtain ⟨v5, h4, h⟩ := Option.bind_eq_some_iff.1 h
    have f4 := ih27 _ _ h4
    try dsimp only at f4
    try simp only [T.Rx.enc_eq, encx.down, Nat.zero_add, Nat.reduceAdd] at f4
    by_cases h6 : (!v5.2) = true
    rw [if_pos h6] at h
    cases h
    show _ = some (rxtree_fits_L0_enc _ (.inl _))
    dsimp only [rxtree_fits_L0_enc]
    clear ih27 ih47
    rotate_left
    rw [if_neg h6] at h; replace h6 := Bool.eq_false_iff.2 h6
    have f5 := ih47 _ _ h
    try dsimp only at f5
    try simp only [T.Rx.enc_eq, encx.down, Nat.zero_add, Nat.reduceAdd] at f5
    clear h
    clear ih27 ih47
    rotate_left
    rw [if_neg h1] at h; replace h1 := Bool.eq_false_iff.2 h1
    cases h
    show _ = some (rxtree_fits_L0_enc _ (.inr _))
    dsimp only [rxtree_fits_L0_enc]
    clear ih27 ih47
    rotate_left
    all_goals
      refine omega_L fn87 (by rfl) ?_
      simp (disch := first | assumption | rfl | exact Sure.mk (by kernel_rfl)) only [go_sem, coreG.down, tab.down, ↓reduceIte, Nat.reduceLeDiff, Nat.reduceEqDiff, Nat.reduceLT, Nat.reduceAdd, Nat.reduceSub, Nat.reduceMul, reduceCtorEq, Nat.reducePow, sp87_0, T.Rx.enc_eq, *]
set_option maxHeartbeats 4000000 in
theorem rxtree_fits_ok {x : T.Rx} {left : Int} {deep : Int} {r : (Int × Bool)} (h : rxtree_fits (x, left, deep) = some r) :
    O.call 87 [AV.pv (PV.agg (T.Rx.enc x)), AV.pv (PV.int IntKind.i64 left), AV.pv (PV.int IntKind.i64 deep)] [] = some (AV.tup [AV.pv (PV.int IntKind.i64 r.1), AV.pv (PV.bool r.2)], []) := rxtree_fits_all.1 (x, left, deep) r h
set_option maxHeartbeats 4000000 in
theorem rxtree_fits_L0_ok {left : Int} {deep : Int} {t31 : (Sl T.Rx)} {t32 : Int} {t33 : Int} {b0_ : T.Rx} {r : ((Int × Int × Bool) ⊕ (Int))} (h : rxtree_fits_L0 (left, deep, t31, t32, t33, b0_) = some r) :
    O.loop 87 0 ⟨[(1, AV.pv (PV.int IntKind.i64 left)), (2, AV.pv (PV.int IntKind.i64 deep)), (31, AV.pv (PV.sl t31.nil (szc 8 t31.l) (List.map T.Rx.enc t31.l))), (32, AV.pv (PV.int IntKind.i64 t32)), (33, AV.pv (PV.int IntKind.i64 t33))], [(0, Blk.box (List.map AV.pv (T.Rx.enc b0_)))], 1⟩ = some (rxtree_fits_L0_enc b0_ r) := rxtree_fits_all.2 (left, deep, t31, t32, t33, b0_) r h
set_option maxHeartbeats 4000000 in
theorem rxtree_May_ok {x : T.Rx} {r : (Bool)} (h : rxtree_May x = some r) :
    O.call 75 [AV.pv (PV.agg (T.Rx.enc x))] [] = some (AV.pv (PV.bool r), []) := by
  unfold rxtree_May at h
  obtain ⟨v2, h1, h⟩ := Option.bind_eq_some_iff.1 h
  have f1 := rxtree_fits_ok h1
  try simp only [T.Rx.enc_eq, encx.down, Nat.zero_add, Nat.reduceAdd] at f1
  cases h
  rotate_left
  all_goals
    refine omega_F rfl fn75 (by rfl) (by rfl) rfl ?_
    simp (disch := first | assumption | rfl | exact Sure.mk (by kernel_rfl)) only [go_sem, coreG.down, tab.down, ↓reduceIte, Nat.reduceLeDiff, Nat.reduceEqDiff, Nat.reduceLT, Nat.reduceAdd, Nat.reduceSub, Nat.reduceMul, reduceCtorEq, Nat.reducePow, T.Rx.enc_eq, *]
set_option maxHeartbeats 4000000 in
theorem fmts_blank_ok {f : T.Fmt} {n : Bool} {way : Bool} {thn : Bool} {other : Bool} {r : (Bool)} (h : fmts_blank f n way thn other = some r) :
    O.call 96 [AV.pv (PV.agg (T.Fmt.enc f)), AV.pv (PV.bool n), AV.pv (PV.bool way), AV.pv (PV.bool thn), AV.pv (PV.bool other)] [] = some (AV.pv (PV.bool r), []) := by
  unfold fmts_blank at h
  by_cases g1 : (n || (f.n == (0 : Int))) = true
  focus
    rw [if_pos g1] at h
    rcases (by intro u0 u1; cases u0 <;> cases u1 <;> simp [Dum] : ∀ u0 u1 : Bool, (u0 || u1) = true → (u0 = true ∧ Dum) ∨ (u0 = false ∧ u1 = true)) n (f.n == (0 : Int)) g1 with ⟨h1, h12⟩ | ⟨h1, h12⟩
    clear g1
    all_goals
      by_cases h2 : way = true
      rw [if_pos h2] at h
      by_cases g2 : (thn || (f.thn == ([] : Bytes))) = true
      focus
        rw [if_pos g2] at h
        rcases (by intro u0 u1; cases u0 <;> cases u1 <;> simp [Dum] : ∀ u0 u1 : Bool, (u0 || u1) = true → (u0 = true ∧ Dum) ∨ (u0 = false ∧ u1 = true)) thn (f.thn == ([] : Bytes)) g2 with ⟨h3, h5⟩ | ⟨h3, h5⟩
        clear g2
        all_goals
          by_cases h4 : other = true
          rw [if_pos h4] at h
          cases h
          rotate_left
          rw [if_neg h4] at h; replace h4 := Bool.eq_false_iff.2 h4
          cases h
          rotate_left
      rotate_left 4
      rw [if_neg g2] at h; replace g2 := Bool.eq_false_iff.2 g2
      rcases (by intro u0 u1; cases u0 <;> cases u1 <;> simp [Dum] : ∀ u0 u1 : Bool, (u0 || u1) = false → (u0 = false ∧ u1 = false)) thn (f.thn == ([] : Bytes)) g2 with ⟨h3, h5⟩
      clear g2
      cases h
      rotate_left
      rw [if_neg h2] at h; replace h2 := Bool.eq_false_iff.2 h2
      by_cases g3 : ((f.cas == (0 : Int)) && (thn || (f.thn == ([] : Bytes)))) = true
      focus
        rw [if_pos g3] at h
        rcases (by intro u0 u1 u2; cases u0 <;> cases u1 <;> cases u2 <;> simp [Dum] : ∀ u0 u1 u2 : Bool, (u0 && (u1 || u2)) = true → (u0 = true ∧ u1 = true ∧ Dum) ∨ (u0 = true ∧ u1 = false ∧ u2 = true)) (f.cas == (0 : Int)) thn (f.thn == ([] : Bytes)) g3 with ⟨h7, h8, h10⟩ | ⟨h7, h8, h10⟩
        clear g3
        all_goals
          by_cases h9 : other = true
          rw [if_pos h9] at h
          cases h
          rotate_left
          rw [if_neg h9] at h; replace h9 := Bool.eq_false_iff.2 h9
          cases h
          rotate_left
      rotate_left 4
      focus
        rw [if_neg g3] at h; replace g3 := Bool.eq_false_iff.2 g3
        rcases (by intro u0 u1 u2; cases u0 <;> cases u1 <;> cases u2 <;> simp [Dum] : ∀ u0 u1 u2 : Bool, (u0 && (u1 || u2)) = false → (u0 = false ∧ Dum ∧ Dum) ∨ (u0 = true ∧ u1 = false ∧ u2 = false)) (f.cas == (0 : Int)) thn (f.thn == ([] : Bytes)) g3 with ⟨h7, h8, h10⟩ | ⟨h7, h8, h10⟩
        clear g3
        all_goals
          cases h
          rotate_left
      rotate_left 2
  rotate_left 22
  rw [if_neg g1] at h; replace g1 := Bool.eq_false_iff.2 g1
  rcases (by intro u0 u1; cases u0 <;> cases u1 <;> simp [Dum] : ∀ u0 u1 : Bool, (u0 || u1) = false → (u0 = false ∧ u1 = false)) n (f.n == (0 : Int)) g1 with ⟨h1, h12⟩
  clear g1
  cases h
  rotate_left
  all_goals
    refine omega_F rfl fn96 (by rfl) (by rfl) rfl ?_
    simp (disch := first | assumption | rfl | exact Sure.mk (by kernel_rfl)) only [go_sem, coreG.down, tab.down, ↓reduceIte, Nat.reduceLeDiff, Nat.reduceEqDiff, Nat.reduceLT, Nat.reduceAdd, Nat.reduceSub, Nat.reduceMul, reduceCtorEq, Nat.reducePow, T.Fmt.enc_eq, *]
set_option maxHeartbeats 4000000 in
theorem casing_names_ok {r : ((Sl Bytes))} (h : casing_names = some r) :
    O.call 105 [] [] = some (AV.pv (PV.sl r.nil (szc 1 r.l) (List.map strE r.l)), []) := by
  unfold casing_names at h
  cases h
  rotate_left
  all_goals
    refine omega_F rfl fn105 (by rfl) (by rfl) rfl ?_
    simp (disch := first | assumption | rfl | exact Sure.mk (by kernel_rfl)) only [go_sem, coreG.down, tab.down, ↓reduceIte, Nat.reduceLeDiff, Nat.reduceEqDiff, Nat.reduceLT, Nat.reduceAdd, Nat.reduceSub, Nat.reduceMul, reduceCtorEq, Nat.reducePow, strE, *]
set_option maxHeartbeats 4000000 in
theorem casing_Name_ok {way : Int} {r : (Bytes)} (h : casing_Name way = some r) :
    O.call 97 [AV.pv (PV.int IntKind.i64 way)] [] = some (AV.pv (PV.str r), []) := by
  unfold casing_Name at h
  by_cases g1 : ((decide (way < (1 : Int))) || (decide (way > (5 : Int)))) = true
  focus
    rw [if_pos g1] at h
    rcases (by intro u0 u1; cases u0 <;> cases u1 <;> simp [Dum] : ∀ u0 u1 : Bool, (u0 || u1) = true → (u0 = true ∧ Dum) ∨ (u0 = false ∧ u1 = true)) (decide (way < (1 : Int))) (decide (way > (5 : Int))) g1 with ⟨h1, h2⟩ | ⟨h1, h2⟩
    clear g1
    all_goals
      cases h
      rotate_left
  rotate_left 2
  rw [if_neg g1] at h; replace g1 := Bool.eq_false_iff.2 g1
  rcases (by intro u0 u1; cases u0 <;> cases u1 <;> simp [Dum] : ∀ u0 u1 : Bool, (u0 || u1) = false → (u0 = false ∧ u1 = false)) (decide (way < (1 : Int))) (decide (way > (5 : Int))) g1 with ⟨h1, h2⟩
  clear g1
  obtain ⟨v4, h3, h⟩ := Option.bind_eq_some_iff.1 h
  have f2 := casing_names_ok h3
  try simp only [strE, encx.down, Nat.zero_add, Nat.reduceAdd] at f2
  obtain ⟨x6, h5, h⟩ := Option.bind_eq_some_iff.1 h
  have f3 := geti_nat h5 IntKind.i64
  have f4 := geti_map strE h5
  try simp only [strE, encx.down, Nat.zero_add, Nat.reduceAdd] at f4
  have f5 := geti_szcT h5 1
  cases h
  rotate_left
  all_goals
    refine omega_F rfl fn97 (by rfl) (by rfl) rfl ?_
    simp (disch := first | assumption | rfl | exact Sure.mk (by kernel_rfl)) only [go_sem, coreG.down, tab.down, ↓reduceIte, Nat.reduceLeDiff, Nat.reduceEqDiff, Nat.reduceLT, Nat.reduceAdd, Nat.reduceSub, Nat.reduceMul, reduceCtorEq, Nat.reducePow, *]
set_option maxHeartbeats 4000000 in
theorem fmts_may_ok {f : T.Fmt} {r : (Bool)} (h : fmts_may f = some r) :
    O.call 88 [AV.pv (PV.agg (T.Fmt.enc f))] [] = some (AV.pv (PV.bool r), []) := by
  unfold fmts_may at h
  by_cases g1 : ((decide (f.n < (0 : Int))) || (decide (f.n > (9999 : Int)))) = true
  focus
    rw [if_pos g1] at h
    rcases (by intro u0 u1; cases u0 <;> cases u1 <;> simp [Dum] : ∀ u0 u1 : Bool, (u0 || u1) = true → (u0 = true ∧ Dum) ∨ (u0 = false ∧ u1 = true)) (decide (f.n < (0 : Int))) (decide (f.n > (9999 : Int))) g1 with ⟨h1, h2⟩ | ⟨h1, h2⟩
    clear g1
    all_goals
      cases h
      rotate_left
  rotate_left 2
  rw [if_neg g1] at h; replace g1 := Bool.eq_false_iff.2 g1
  rcases (by intro u0 u1; cases u0 <;> cases u1 <;> simp [Dum] : ∀ u0 u1 : Bool, (u0 || u1) = false → (u0 = false ∧ u1 = false)) (decide (f.n < (0 : Int))) (decide (f.n > (9999 : Int))) g1 with ⟨h1, h2⟩
  clear g1
  by_cases h3 : (f.kind == (0 : Int)) = true
  rw [if_pos h3] at h
  obtain ⟨v5, h4, h⟩ := Option.bind_eq_some_iff.1 h
  have f2 := fmts_blank_ok h4
  try simp only [T.Fmt.enc_eq, encx.down, Nat.zero_add, Nat.reduceAdd] at f2
  by_cases h6 : v5 = true
  rw [if_pos h6] at h
  try simp only [h6] at f2
  cases h
  rotate_left
  rw [if_neg h6] at h; replace h6 := Bool.eq_false_iff.2 h6
  try simp only [h6] at f2
  cases h
  rotate_left
  rw [if_neg h3] at h; replace h3 := Bool.eq_false_iff.2 h3
  by_cases h7 : (f.kind == (1 : Int)) = true
  rw [if_pos h7] at h
  obtain ⟨v9, h8, h⟩ := Option.bind_eq_some_iff.1 h
  have f3 := fmts_blank_ok h8
  try simp only [T.Fmt.enc_eq, encx.down, Nat.zero_add, Nat.reduceAdd] at f3
  cases h
  rotate_left
  rw [if_neg h7] at h; replace h7 := Bool.eq_false_iff.2 h7
  by_cases h10 : (f.kind == (2 : Int)) = true
  rw [if_pos h10] at h
  obtain ⟨v12, h11, h⟩ := Option.bind_eq_some_iff.1 h
  have f4 := fmts_blank_ok h11
  try simp only [T.Fmt.enc_eq, encx.down, Nat.zero_add, Nat.reduceAdd] at f4
  by_cases h13 : v12 = true
  rw [if_pos h13] at h
  obtain ⟨v15, h14, h⟩ := Option.bind_eq_some_iff.1 h
  have f5 := casing_Name_ok h14
  try simp only [encx.down, Nat.zero_add, Nat.reduceAdd] at f5
  try simp only [h13] at f4 f5
  cases h
  rotate_left
  rw [if_neg h13] at h; replace h13 := Bool.eq_false_iff.2 h13
  try simp only [h13] at f4
  cases h
  rotate_left
  rw [if_neg h10] at h; replace h10 := Bool.eq_false_iff.2 h10
  by_cases h16 : (f.kind == (3 : Int)) = true
  rw [if_pos h16] at h
  obtain ⟨v18, h17, h⟩ := Option.bind_eq_some_iff.1 h
  have f6 := fmts_blank_ok h17
  try simp only [T.Fmt.enc_eq, encx.down, Nat.zero_add, Nat.reduceAdd] at f6
  cases h
  rotate_left
  rw [if_neg h16] at h; replace h16 := Bool.eq_false_iff.2 h16
  by_cases h19 : (f.kind == (4 : Int)) = true
  rw [if_pos h19] at h
  obtain ⟨v21, h20, h⟩ := Option.bind_eq_some_iff.1 h
  have f7 := fmts_blank_ok h20
  try simp only [T.Fmt.enc_eq, encx.down, Nat.zero_add, Nat.reduceAdd] at f7
  cases h
  rotate_left
  rw [if_neg h19] at h; replace h19 := Bool.eq_false_iff.2 h19
  by_cases h22 : (f.kind == (5 : Int)) = true
  rw [if_pos h22] at h
  obtain ⟨v24, h23, h⟩ := Option.bind_eq_some_iff.1 h
  have f8 := fmts_blank_ok h23
  try simp only [T.Fmt.enc_eq, encx.down, Nat.zero_add, Nat.reduceAdd] at f8
  cases h
  rotate_left
  rw [if_neg h22] at h; replace h22 := Bool.eq_false_iff.2 h22
  cases h
  rotate_left
  all_goals
    refine omega_F rfl fn88 (by rfl) (by rfl) rfl ?_
    simp (disch := first | assumption | rfl | exact Sure.mk (by kernel_rfl)) only [go_sem, coreG.down, tab.down, ↓reduceIte, Nat.reduceLeDiff, Nat.reduceEqDiff, Nat.reduceLT, Nat.reduceAdd, Nat.reduceSub, Nat.reduceMul, reduceCtorEq, Nat.reducePow, T.Fmt.enc_eq, *]
def fmts_May_L0_enc : ((Bool) ⊕ (Unit)) → Ex × St
  | .inl y => (Ex.ret, ⟨[(2, AV.pv (PV.bool y))], [], 0⟩)
  | .inr y => (Ex.normal, ⟨[(2, AV.undef)], [], 0⟩)
set_option maxHeartbeats 4000000 in
theorem fmts_May_L0_ok {fs : (Sl T.Fmt)} {t5 : (Sl T.Fmt)} {t6 : Int} {t7 : Int} {r : ((Bool) ⊕ (Unit))} (h : fmts_May_L0 (fs, t5, t6, t7) = some r) :
    O.loop 76 0 ⟨[(0, AV.pv (PV.sl fs.nil (szc 5 fs.l) (List.map T.Fmt.enc fs.l))), (5, AV.pv (PV.sl t5.nil (szc 5 t5.l) (List.map T.Fmt.enc t5.l))), (6, AV.pv (PV.int IntKind.i64 t6)), (7, AV.pv (PV.int IntKind.i64 t7))], [], 0⟩ = some (fmts_May_L0_enc r) := by
  refine fmts_May_L0.partial_correctness (fun p r => O.loop 76 0 ⟨[(0, AV.pv (PV.sl p.1.nil (szc 5 p.1.l) (List.map T.Fmt.enc p.1.l))), (5, AV.pv (PV.sl p.2.1.nil (szc 5 p.2.1.l) (List.map T.Fmt.enc p.2.1.l))), (6, AV.pv (PV.int IntKind.i64 p.2.2.1)), (7, AV.pv (PV.int IntKind.i64 p.2.2.2))], [], 0⟩ = some (fmts_May_L0_enc r)) ?_ (fs, t5, t6, t7) r h
  clear h r fs t5 t6 t7
  intro fmts_May_L0 ih49
  rintro ⟨fs, t5, t6, t7⟩ r h
  dsimp only at h ⊢
  by_cases h1 : (decide (t7 < t6)) = true
  rw [if_pos h1] at h
  obtain ⟨x3, h2, h⟩ := Option.bind_eq_some_iff.1 h
  have f1 := geti_nat h2 IntKind.i64
  have f2 := geti_map T.Fmt.enc h2
  try simp only [T.Fmt.enc_eq, encx.down, Nat.zero_add, Nat.reduceAdd] at f2
  have f3 := geti_szcT h2 5
  obtain ⟨v5, h4, h⟩ := Option.bind_eq_some_iff.1 h
  have f4 := fmts_may_ok h4
  try simp only [T.Fmt.enc_eq, encx.down, Nat.zero_add, Nat.reduceAdd] at f4
  by_cases h6 : (!v5) = true
  rw [if_pos h6] at h
  cases h
  show _ = some (fmts_May_L0_enc (.inl _))
  dsimp only [fmts_May_L0_enc]
  clear ih49
  rotate_left
  rw [if_neg h6] at h; replace h6 := Bool.eq_false_iff.2 h6
  by_cases g5 : ((x3.kind == (0 : Int)) && (decide (t7 > (0 : Int)))) = true
  rw [if_pos g5] at h
  rcases (by intro u0 u1; cases u0 <;> cases u1 <;> simp [Dum] : ∀ u0 u1 : Bool, (u0 && u1) = true → (u0 = true ∧ u1 = true)) (x3.kind == (0 : Int)) (decide (t7 > (0 : Int))) g5 with ⟨h7, h8⟩
  clear g5
  obtain ⟨x10, h9, h⟩ := Option.bind_eq_some_iff.1 h
  have f6 := geti_nat h9 IntKind.i64
  have f7 := geti_map T.Fmt.enc h9
  try simp only [T.Fmt.enc_eq, encx.down, Nat.zero_add, Nat.reduceAdd] at f7
  have f8 := geti_szcT h9 5
  by_cases h11 : (x10.kind == (0 : Int)) = true
  rw [if_pos h11] at h
  cases h
  show _ = some (fmts_May_L0_enc (.inl _))
  dsimp only [fmts_May_L0_enc]
  clear ih49
  rotate_left
  rw [if_neg h11] at h; replace h11 := Bool.eq_false_iff.2 h11
  have f9 := ih49 _ _ h
  try dsimp only at f9
  try simp only [T.Fmt.enc_eq, encx.down, Nat.zero_add, Nat.reduceAdd] at f9
  clear h
  clear ih49
  rotate_left
  focus
    rw [if_neg g5] at h; replace g5 := Bool.eq_false_iff.2 g5
    rcases (by intro u0 u1; cases u0 <;> cases u1 <;> simp [Dum] : ∀ u0 u1 : Bool, (u0 && u1) = false → (u0 = false ∧ Dum) ∨ (u0 = true ∧ u1 = false)) (x3.kind == (0 : Int)) (decide (t7 > (0 : Int))) g5 with ⟨h7, h8⟩ | ⟨h7, h8⟩
    clear g5
    all_goals
      have f10 := ih49 _ _ h
      try dsimp only at f10
      try simp only [T.Fmt.enc_eq, encx.down, Nat.zero_add, Nat.reduceAdd] at f10
      clear h
      clear ih49
      rotate_left
  rotate_left 2
  rw [if_neg h1] at h; replace h1 := Bool.eq_false_iff.2 h1
  cases h
  show _ = some (fmts_May_L0_enc (.inr _))
  dsimp only [fmts_May_L0_enc]
  clear ih49
  rotate_left
  all_goals
    refine omega_L fn76 (by rfl) ?_
    simp (disch := first | assumption | rfl | exact Sure.mk (by kernel_rfl)) only [go_sem, coreG.down, tab.down, ↓reduceIte, Nat.reduceLeDiff, Nat.reduceEqDiff, Nat.reduceLT, Nat.reduceAdd, Nat.reduceSub, Nat.reduceMul, reduceCtorEq, Nat.reducePow, sp76_0, T.Fmt.enc_eq, *]
set_option maxHeartbeats 4000000 in
theorem fmts_May_ok {fs : (Sl T.Fmt)} {r : (Bool)} (h : fmts_May fs = some r) :
    O.call 76 [AV.pv (PV.sl fs.nil (szc 5 fs.l) (List.map T.Fmt.enc fs.l))] [] = some (AV.pv (PV.bool r), []) := by
  unfold fmts_May at h
  obtain ⟨v2, h1, h⟩ := Option.bind_eq_some_iff.1 h
  have f1 := fmts_May_L0_ok h1
  try simp only [T.Fmt.enc_eq, encx.down, Nat.zero_add, Nat.reduceAdd] at f1
  rcases v2 with y3 | y4
  dsimp only at h
  simp only [fmts_May_L0_enc, T.Fmt.enc_eq, encx.down, Nat.zero_add, Nat.reduceAdd] at f1
  cases h
  rotate_left
  dsimp only at h
  simp only [fmts_May_L0_enc, T.Fmt.enc_eq, encx.down, Nat.zero_add, Nat.reduceAdd] at f1
  cases h
  rotate_left
  all_goals
    refine omega_F rfl fn76 (by rfl) (by rfl) rfl ?_
    simp (disch := first | assumption | rfl | exact Sure.mk (by kernel_rfl)) only [go_sem, coreG.down, tab.down, ↓reduceIte, Nat.reduceLeDiff, Nat.reduceEqDiff, Nat.reduceLT, Nat.reduceAdd, Nat.reduceSub, Nat.reduceMul, reduceCtorEq, Nat.reducePow, sp76_0, T.Fmt.enc_eq, *]
set_option maxHeartbeats 4000000 in
theorem xform_May_ok {f : T.Form} {r : (Bool)} (h : xform_May f = some r) :
    O.call 58 [AV.pv (PV.agg (T.Form.enc f))] [] = some (AV.pv (PV.bool r), []) := by
  unfold xform_May at h
  obtain ⟨v2, h1, h⟩ := Option.bind_eq_some_iff.1 h
  have f1 := rxtree_May_ok h1
  try simp only [T.Rx.enc_eq, encx.down, Nat.zero_add, Nat.reduceAdd] at f1
  by_cases h3 : v2 = true
  rw [if_pos h3] at h
  obtain ⟨v5, h4, h⟩ := Option.bind_eq_some_iff.1 h
  have f2 := fmts_May_ok h4
  try simp only [T.Fmt.enc_eq, encx.down, Nat.zero_add, Nat.reduceAdd] at f2
  try simp only [h3] at f1 f2
  cases h
  rotate_left
  rw [if_neg h3] at h; replace h3 := Bool.eq_false_iff.2 h3
  try simp only [h3] at f1
  cases h
  rotate_left
  all_goals
    refine omega_F rfl fn58 (by rfl) (by rfl) rfl ?_
    simp (disch := first | assumption | rfl | exact Sure.mk (by kernel_rfl)) only [go_sem, coreG.down, tab.down, ↓reduceIte, Nat.reduceLeDiff, Nat.reduceEqDiff, Nat.reduceLT, Nat.reduceAdd, Nat.reduceSub, Nat.reduceMul, reduceCtorEq, Nat.reducePow, T.Form.enc_eq, *]
set_option maxHeartbeats 4000000 in
theorem snode_besides_ok {x : T.Snip} {r : (Bool)} (h : snode_besides x = some r) :
    O.call 46 [AV.pv (PV.agg (T.Snip.enc x))] [] = some (AV.pv (PV.bool r), []) := by
  unfold snode_besides at h
  by_cases h1 : x.has = true
  rw [if_pos h1] at h
  by_cases h2 : x.turned = true
  rw [if_pos h2] at h
  cases h
  rotate_left
  rw [if_neg h2] at h; replace h2 := Bool.eq_false_iff.2 h2
  obtain ⟨v4, h3, h⟩ := Option.bind_eq_some_iff.1 h
  have f1 := xform_Same_ok h3
  try simp only [T.Form.enc_eq, encx.down, Nat.zero_add, Nat.reduceAdd] at f1
  try simp only [h1, h2] at f1
  cases h
  rotate_left
  rw [if_neg h1] at h; replace h1 := Bool.eq_false_iff.2 h1
  by_cases h5 : x.turned = true
  rw [if_pos h5] at h
  by_cases h6 : ((x.kids.l.length : Int) == (0 : Int)) = true
  rw [if_pos h6] at h
  obtain ⟨v8, h7, h⟩ := Option.bind_eq_some_iff.1 h
  have f2 := xform_May_ok h7
  try simp only [T.Form.enc_eq, encx.down, Nat.zero_add, Nat.reduceAdd] at f2
  try simp only [h1, h5] at f2
  cases h
  rotate_left
  rw [if_neg h6] at h; replace h6 := Bool.eq_false_iff.2 h6
  cases h
  rotate_left
  rw [if_neg h5] at h; replace h5 := Bool.eq_false_iff.2 h5
  obtain ⟨v10, h9, h⟩ := Option.bind_eq_some_iff.1 h
  have f3 := snode_nothing_ok h9
  try simp only [T.Snip.enc_eq, encx.down, Nat.zero_add, Nat.reduceAdd] at f3
  try simp only [h1, h5] at f3
  cases h
  rotate_left
  all_goals
    refine omega_F rfl fn46 (by rfl) (by rfl) rfl ?_
    simp (disch := first | assumption | rfl | exact Sure.mk (by kernel_rfl)) only [go_sem, coreG.down, tab.down, ↓reduceIte, Nat.reduceLeDiff, Nat.reduceEqDiff, Nat.reduceLT, Nat.reduceAdd, Nat.reduceSub, Nat.reduceMul, reduceCtorEq, Nat.reducePow, T.Snip.enc_eq, *]
set_option maxHeartbeats 4000000 in
theorem snode_NameByte_ok {c : UInt8} {r : (Bool)} (h : snode_NameByte c = some r) :
    O.call 30 [AV.pv (PV.int IntKind.u8 (c.toNat : Int))] [] = some (AV.pv (PV.bool r), []) := by
  unfold snode_NameByte at h
  by_cases g1 : (((decide ((c.toNat : Int) ≥ (97 : Int))) && (decide ((c.toNat : Int) ≤ (122 : Int)))) || (((decide ((c.toNat : Int) ≥ (65 : Int))) && (decide ((c.toNat : Int) ≤ (90 : Int)))) || ((decide ((c.toNat : Int) ≥ (48 : Int))) && (decide ((c.toNat : Int) ≤ (57 : Int)))))) = true
  focus
    rw [if_pos g1] at h
    rcases (by intro u0 u1 u2 u3 u4 u5; cases u0 <;> cases u1 <;> cases u2 <;> cases u3 <;> cases u4 <;> cases u5 <;> simp [Dum] : ∀ u0 u1 u2 u3 u4 u5 : Bool, ((u0 && u1) || ((u2 && u3) || (u4 && u5))) = true → (u0 = true ∧ u1 = true ∧ Dum ∧ Dum ∧ Dum ∧ Dum) ∨ (u0 = false ∧ Dum ∧ u2 = true ∧ u3 = true ∧ Dum ∧ Dum) ∨ (u0 = false ∧ Dum ∧ u2 = false ∧ Dum ∧ u4 = true ∧ u5 = true) ∨ (u0 = false ∧ Dum ∧ u2 = true ∧ u3 = false ∧ u4 = true ∧ u5 = true) ∨ (u0 = true ∧ u1 = false ∧ u2 = true ∧ u3 = true ∧ Dum ∧ Dum) ∨ (u0 = true ∧ u1 = false ∧ u2 = false ∧ Dum ∧ u4 = true ∧ u5 = true) ∨ (u0 = true ∧ u1 = false ∧ u2 = true ∧ u3 = false ∧ u4 = true ∧ u5 = true)) (decide ((c.toNat : Int) ≥ (97 : Int))) (decide ((c.toNat : Int) ≤ (122 : Int))) (decide ((c.toNat : Int) ≥ (65 : Int))) (decide ((c.toNat : Int) ≤ (90 : Int))) (decide ((c.toNat : Int) ≥ (48 : Int))) (decide ((c.toNat : Int) ≤ (57 : Int))) g1 with ⟨h1, h2, h9, h10, h13, h14⟩ | ⟨h1, h2, h9, h10, h13, h14⟩ | ⟨h1, h2, h9, h10, h13, h14⟩ | ⟨h1, h2, h9, h10, h13, h14⟩ | ⟨h1, h2, h9, h10, h13, h14⟩ | ⟨h1, h2, h9, h10, h13, h14⟩ | ⟨h1, h2, h9, h10, h13, h14⟩
    clear g1
    all_goals
      cases h
      rotate_left
  rotate_left 7
  focus
    rw [if_neg g1] at h; replace g1 := Bool.eq_false_iff.2 g1
    rcases (by intro u0 u1 u2 u3 u4 u5; cases u0 <;> cases u1 <;> cases u2 <;> cases u3 <;> cases u4 <;> cases u5 <;> simp [Dum] : ∀ u0 u1 u2 u3 u4 u5 : Bool, ((u0 && u1) || ((u2 && u3) || (u4 && u5))) = false → (u0 = false ∧ Dum ∧ u2 = false ∧ Dum ∧ u4 = false ∧ Dum) ∨ (u0 = false ∧ Dum ∧ u2 = false ∧ Dum ∧ u4 = true ∧ u5 = false) ∨ (u0 = false ∧ Dum ∧ u2 = true ∧ u3 = false ∧ u4 = false ∧ Dum) ∨ (u0 = false ∧ Dum ∧ u2 = true ∧ u3 = false ∧ u4 = true ∧ u5 = false) ∨ (u0 = true ∧ u1 = false ∧ u2 = false ∧ Dum ∧ u4 = false ∧ Dum) ∨ (u0 = true ∧ u1 = false ∧ u2 = false ∧ Dum ∧ u4 = true ∧ u5 = false) ∨ (u0 = true ∧ u1 = false ∧ u2 = true ∧ u3 = false ∧ u4 = false ∧ Dum) ∨ (u0 = true ∧ u1 = false ∧ u2 = true ∧ u3 = false ∧ u4 = true ∧ u5 = false)) (decide ((c.toNat : Int) ≥ (97 : Int))) (decide ((c.toNat : Int) ≤ (122 : Int))) (decide ((c.toNat : Int) ≥ (65 : Int))) (decide ((c.toNat : Int) ≤ (90 : Int))) (decide ((c.toNat : Int) ≥ (48 : Int))) (decide ((c.toNat : Int) ≤ (57 : Int))) g1 with ⟨h1, h2, h9, h10, h13, h14⟩ | ⟨h1, h2, h9, h10, h13, h14⟩ | ⟨h1, h2, h9, h10, h13, h14⟩ | ⟨h1, h2, h9, h10, h13, h14⟩ | ⟨h1, h2, h9, h10, h13, h14⟩ | ⟨h1, h2, h9, h10, h13, h14⟩ | ⟨h1, h2, h9, h10, h13, h14⟩ | ⟨h1, h2, h9, h10, h13, h14⟩
    clear g1
    all_goals
      cases h
      rotate_left
  rotate_left 8
  all_goals
    refine omega_F rfl fn30 (by rfl) (by rfl) rfl ?_
    simp (disch := first | assumption | rfl | exact Sure.mk (by kernel_rfl)) only [go_sem, coreG.down, tab.down, ↓reduceIte, Nat.reduceLeDiff, Nat.reduceEqDiff, Nat.reduceLT, Nat.reduceAdd, Nat.reduceSub, Nat.reduceMul, reduceCtorEq, Nat.reducePow, *]
def snode_Name_L0_enc (s : Bytes) : ((Bool) ⊕ (Unit)) → Ex × St
  | .inl y => (Ex.ret, ⟨[(0, AV.pv (PV.str s)), (2, AV.pv (PV.bool y))], [], 0⟩)
  | .inr y => (Ex.normal, ⟨[(0, AV.pv (PV.str s)), (2, AV.undef)], [], 0⟩)
set_option maxHeartbeats 4000000 in
theorem snode_Name_L0_ok {s : Bytes} {i : Int} {r : ((Bool) ⊕ (Unit))} (h : snode_Name_L0 (s, i) = some r) :
    O.loop 18 0 ⟨[(0, AV.pv (PV.str s)), (3, AV.pv (PV.int IntKind.i64 i))], [], 0⟩ = some (snode_Name_L0_enc s r) := by
  refine snode_Name_L0.partial_correctness (fun p r => O.loop 18 0 ⟨[(0, AV.pv (PV.str p.1)), (3, AV.pv (PV.int IntKind.i64 p.2))], [], 0⟩ = some (snode_Name_L0_enc p.1 r)) ?_ (s, i) r h
  clear h r s i
  intro snode_Name_L0 ih55
  rintro ⟨s, i⟩ r h
  dsimp only at h ⊢
  by_cases h1 : (decide (i < (s.length : Int))) = true
  rw [if_pos h1] at h
  obtain ⟨b3, h2, h⟩ := Option.bind_eq_some_iff.1 h
  have f1 := geti_nat h2 IntKind.i64
  have f2 := geti_at h2
  obtain ⟨v5, h4, h⟩ := Option.bind_eq_some_iff.1 h
  have f3 := snode_NameByte_ok h4
  try simp only [encx.down, Nat.zero_add, Nat.reduceAdd] at f3
  by_cases h6 : (!v5) = true
  rw [if_pos h6] at h
  cases h
  show _ = some (snode_Name_L0_enc _ (.inl _))
  dsimp only [snode_Name_L0_enc]
  clear ih55
  rotate_left
  rw [if_neg h6] at h; replace h6 := Bool.eq_false_iff.2 h6
  by_cases h7 : (i == (0 : Int)) = true
  rw [if_pos h7] at h
  by_cases h8 : (decide ((b3.toNat : Int) ≤ (57 : Int))) = true
  rw [if_pos h8] at h
  cases h
  show _ = some (snode_Name_L0_enc _ (.inl _))
  dsimp only [snode_Name_L0_enc]
  clear ih55
  rotate_left
  rw [if_neg h8] at h; replace h8 := Bool.eq_false_iff.2 h8
  have f4 := ih55 _ _ h
  try dsimp only at f4
  try simp only [encx.down, Nat.zero_add, Nat.reduceAdd] at f4
  clear h
  clear ih55
  rotate_left
  rw [if_neg h7] at h; replace h7 := Bool.eq_false_iff.2 h7
  have f5 := ih55 _ _ h
  try dsimp only at f5
  try simp only [encx.down, Nat.zero_add, Nat.reduceAdd] at f5
  clear h
  clear ih55
  rotate_left
  rw [if_neg h1] at h; replace h1 := Bool.eq_false_iff.2 h1
  cases h
  show _ = some (snode_Name_L0_enc _ (.inr _))
  dsimp only [snode_Name_L0_enc]
  clear ih55
  rotate_left
  all_goals
    refine omega_L fn18 (by rfl) ?_
    simp (disch := first | assumption | rfl | exact Sure.mk (by kernel_rfl)) only [go_sem, coreG.down, tab.down, ↓reduceIte, Nat.reduceLeDiff, Nat.reduceEqDiff, Nat.reduceLT, Nat.reduceAdd, Nat.reduceSub, Nat.reduceMul, reduceCtorEq, Nat.reducePow, sp18_0, *]
set_option maxHeartbeats 4000000 in
theorem snode_Name_ok {s : Bytes} {r : (Bool)} (h : snode_Name s = some r) :
    O.call 18 [AV.pv (PV.str s)] [] = some (AV.pv (PV.bool r), []) := by
  unfold snode_Name at h
  obtain ⟨v2, h1, h⟩ := Option.bind_eq_some_iff.1 h
  have f1 := snode_Name_L0_ok h1
  try simp only [encx.down, Nat.zero_add, Nat.reduceAdd] at f1
  rcases v2 with y3 | y4
  dsimp only at h
  simp only [snode_Name_L0_enc, encx.down, Nat.zero_add, Nat.reduceAdd] at f1
  cases h
  rotate_left
  dsimp only at h
  simp only [snode_Name_L0_enc, encx.down, Nat.zero_add, Nat.reduceAdd] at f1
  by_cases h5 : (!(s == ([] : Bytes))) = true
  rw [if_pos h5] at h
  cases h
  rotate_left
  rw [if_neg h5] at h; replace h5 := Bool.eq_false_iff.2 h5
  cases h
  rotate_left
  all_goals
    refine omega_F rfl fn18 (by rfl) (by rfl) rfl ?_
    simp (disch := first | assumption | rfl | exact Sure.mk (by kernel_rfl)) only [go_sem, coreG.down, tab.down, ↓reduceIte, Nat.reduceLeDiff, Nat.reduceEqDiff, Nat.reduceLT, Nat.reduceAdd, Nat.reduceSub, Nat.reduceMul, reduceCtorEq, Nat.reducePow, sp18_0, *]
set_option maxHeartbeats 4000000 in
theorem snode_fields_ok {x : T.Snip} {r : (Bool)} (h : snode_fields x = some r) :
    O.call 33 [AV.pv (PV.agg (T.Snip.enc x))] [] = some (AV.pv (PV.bool r), []) := by
  unfold snode_fields at h
  by_cases h1 : (decide (x.n ≥ (0 : Int))) = true
  rw [if_pos h1] at h
  by_cases h2 : (x.kind == (0 : Int)) = true
  rw [if_pos h2] at h
  by_cases g1 : ((!(x.text == ([] : Bytes))) && ((x.n == (0 : Int)) && ((x.opts.l.length : Int) == (0 : Int)))) = true
  rw [if_pos g1] at h
  rcases (by intro u0 u1 u2; cases u0 <;> cases u1 <;> cases u2 <;> simp [Dum] : ∀ u0 u1 u2 : Bool, (u0 && (u1 && u2)) = true → (u0 = true ∧ u1 = true ∧ u2 = true)) (!(x.text == ([] : Bytes))) (x.n == (0 : Int)) ((x.opts.l.length : Int) == (0 : Int)) g1 with ⟨h3, h4, h5⟩
  clear g1
  obtain ⟨v7, h6, h⟩ := Option.bind_eq_some_iff.1 h
  have f2 := snode_nothing_ok h6
  try simp only [T.Snip.enc_eq, encx.down, Nat.zero_add, Nat.reduceAdd] at f2
  cases h
  rotate_left
  focus
    rw [if_neg g1] at h; replace g1 := Bool.eq_false_iff.2 g1
    rcases (by intro u0 u1 u2; cases u0 <;> cases u1 <;> cases u2 <;> simp [Dum] : ∀ u0 u1 u2 : Bool, (u0 && (u1 && u2)) = false → (u0 = false ∧ Dum ∧ Dum) ∨ (u0 = true ∧ u1 = false ∧ Dum) ∨ (u0 = true ∧ u1 = true ∧ u2 = false)) (!(x.text == ([] : Bytes))) (x.n == (0 : Int)) ((x.opts.l.length : Int) == (0 : Int)) g1 with ⟨h3, h4, h5⟩ | ⟨h3, h4, h5⟩ | ⟨h3, h4, h5⟩
    clear g1
    all_goals
      cases h
      rotate_left
  rotate_left 3
  rw [if_neg h2] at h; replace h2 := Bool.eq_false_iff.2 h2
  by_cases h8 : (x.kind == (1 : Int)) = true
  rw [if_pos h8] at h
  by_cases g3 : ((x.text == ([] : Bytes)) && ((decide (x.n ≤ (9999 : Int))) && ((x.opts.l.length : Int) == (0 : Int)))) = true
  rw [if_pos g3] at h
  rcases (by intro u0 u1 u2; cases u0 <;> cases u1 <;> cases u2 <;> simp [Dum] : ∀ u0 u1 u2 : Bool, (u0 && (u1 && u2)) = true → (u0 = true ∧ u1 = true ∧ u2 = true)) (x.text == ([] : Bytes)) (decide (x.n ≤ (9999 : Int))) ((x.opts.l.length : Int) == (0 : Int)) g3 with ⟨h9, h10, h11⟩
  clear g3
  obtain ⟨v13, h12, h⟩ := Option.bind_eq_some_iff.1 h
  have f4 := snode_besides_ok h12
  try simp only [T.Snip.enc_eq, encx.down, Nat.zero_add, Nat.reduceAdd] at f4
  cases h
  rotate_left
  focus
    rw [if_neg g3] at h; replace g3 := Bool.eq_false_iff.2 g3
    rcases (by intro u0 u1 u2; cases u0 <;> cases u1 <;> cases u2 <;> simp [Dum] : ∀ u0 u1 u2 : Bool, (u0 && (u1 && u2)) = false → (u0 = false ∧ Dum ∧ Dum) ∨ (u0 = true ∧ u1 = false ∧ Dum) ∨ (u0 = true ∧ u1 = true ∧ u2 = false)) (x.text == ([] : Bytes)) (decide (x.n ≤ (9999 : Int))) ((x.opts.l.length : Int) == (0 : Int)) g3 with ⟨h9, h10, h11⟩ | ⟨h9, h10, h11⟩ | ⟨h9, h10, h11⟩
    clear g3
    all_goals
      cases h
      rotate_left
  rotate_left 3
  rw [if_neg h8] at h; replace h8 := Bool.eq_false_iff.2 h8
  by_cases h14 : (x.kind == (2 : Int)) = true
  rw [if_pos h14] at h
  by_cases g5 : ((x.text == ([] : Bytes)) && ((decide (x.n ≤ (9999 : Int))) && (decide ((x.opts.l.length : Int) > (0 : Int))))) = true
  rw [if_pos g5] at h
  rcases (by intro u0 u1 u2; cases u0 <;> cases u1 <;> cases u2 <;> simp [Dum] : ∀ u0 u1 u2 : Bool, (u0 && (u1 && u2)) = true → (u0 = true ∧ u1 = true ∧ u2 = true)) (x.text == ([] : Bytes)) (decide (x.n ≤ (9999 : Int))) (decide ((x.opts.l.length : Int) > (0 : Int))) g5 with ⟨h15, h16, h17⟩
  clear g5
  obtain ⟨v19, h18, h⟩ := Option.bind_eq_some_iff.1 h
  have f6 := snode_nothing_ok h18
  try simp only [T.Snip.enc_eq, encx.down, Nat.zero_add, Nat.reduceAdd] at f6
  cases h
  rotate_left
  focus
    rw [if_neg g5] at h; replace g5 := Bool.eq_false_iff.2 g5
    rcases (by intro u0 u1 u2; cases u0 <;> cases u1 <;> cases u2 <;> simp [Dum] : ∀ u0 u1 u2 : Bool, (u0 && (u1 && u2)) = false → (u0 = false ∧ Dum ∧ Dum) ∨ (u0 = true ∧ u1 = false ∧ Dum) ∨ (u0 = true ∧ u1 = true ∧ u2 = false)) (x.text == ([] : Bytes)) (decide (x.n ≤ (9999 : Int))) (decide ((x.opts.l.length : Int) > (0 : Int))) g5 with ⟨h15, h16, h17⟩ | ⟨h15, h16, h17⟩ | ⟨h15, h16, h17⟩
    clear g5
    all_goals
      cases h
      rotate_left
  rotate_left 3
  rw [if_neg h14] at h; replace h14 := Bool.eq_false_iff.2 h14
  by_cases h20 : (x.kind == (3 : Int)) = true
  rw [if_pos h20] at h
  obtain ⟨v22, h21, h⟩ := Option.bind_eq_some_iff.1 h
  have f7 := snode_Name_ok h21
  try simp only [encx.down, Nat.zero_add, Nat.reduceAdd] at f7
  by_cases g8 : (v22 && ((x.n == (0 : Int)) && ((x.opts.l.length : Int) == (0 : Int)))) = true
  rw [if_pos g8] at h
  rcases (by intro u0 u1 u2; cases u0 <;> cases u1 <;> cases u2 <;> simp [Dum] : ∀ u0 u1 u2 : Bool, (u0 && (u1 && u2)) = true → (u0 = true ∧ u1 = true ∧ u2 = true)) v22 (x.n == (0 : Int)) ((x.opts.l.length : Int) == (0 : Int)) g8 with ⟨h23, h24, h25⟩
  clear g8
  obtain ⟨v27, h26, h⟩ := Option.bind_eq_some_iff.1 h
  have f9 := snode_besides_ok h26
  try simp only [T.Snip.enc_eq, encx.down, Nat.zero_add, Nat.reduceAdd] at f9
  try simp only [h23] at f7 f9
  cases h
  rotate_left
  focus
    rw [if_neg g8] at h; replace g8 := Bool.eq_false_iff.2 g8
    rcases (by intro u0 u1 u2; cases u0 <;> cases u1 <;> cases u2 <;> simp [Dum] : ∀ u0 u1 u2 : Bool, (u0 && (u1 && u2)) = false → (u0 = false ∧ Dum ∧ Dum) ∨ (u0 = true ∧ u1 = false ∧ Dum) ∨ (u0 = true ∧ u1 = true ∧ u2 = false)) v22 (x.n == (0 : Int)) ((x.opts.l.length : Int) == (0 : Int)) g8 with ⟨h23, h24, h25⟩ | ⟨h23, h24, h25⟩ | ⟨h23, h24, h25⟩
    clear g8
    all_goals
      try simp only [h23] at f7
      cases h
      rotate_left
  rotate_left 3
  rw [if_neg h20] at h; replace h20 := Bool.eq_false_iff.2 h20
  cases h
  rotate_left
  rw [if_neg h1] at h; replace h1 := Bool.eq_false_iff.2 h1
  by_cases h28 : (x.kind == (0 : Int)) = true
  rw [if_pos h28] at h
  by_cases g10 : ((!(x.text == ([] : Bytes))) && ((x.n == (0 : Int)) && ((x.opts.l.length : Int) == (0 : Int)))) = true
  rw [if_pos g10] at h
  rcases (by intro u0 u1 u2; cases u0 <;> cases u1 <;> cases u2 <;> simp [Dum] : ∀ u0 u1 u2 : Bool, (u0 && (u1 && u2)) = true → (u0 = true ∧ u1 = true ∧ u2 = true)) (!(x.text == ([] : Bytes))) (x.n == (0 : Int)) ((x.opts.l.length : Int) == (0 : Int)) g10 with ⟨h29, h30, h31⟩
  clear g10
  obtain ⟨v33, h32, h⟩ := Option.bind_eq_some_iff.1 h
  have f11 := snode_nothing_ok h32
  try simp only [T.Snip.enc_eq, encx.down, Nat.zero_add, Nat.reduceAdd] at f11
  cases h
  rotate_left
  focus
    rw [if_neg g10] at h; replace g10 := Bool.eq_false_iff.2 g10
    rcases (by intro u0 u1 u2; cases u0 <;> cases u1 <;> cases u2 <;> simp [Dum] : ∀ u0 u1 u2 : Bool, (u0 && (u1 && u2)) = false → (u0 = false ∧ Dum ∧ Dum) ∨ (u0 = true ∧ u1 = false ∧ Dum) ∨ (u0 = true ∧ u1 = true ∧ u2 = false)) (!(x.text == ([] : Bytes))) (x.n == (0 : Int)) ((x.opts.l.length : Int) == (0 : Int)) g10 with ⟨h29, h30, h31⟩ | ⟨h29, h30, h31⟩ | ⟨h29, h30, h31⟩
    clear g10
    all_goals
      cases h
      rotate_left
  rotate_left 3
  rw [if_neg h28] at h; replace h28 := Bool.eq_false_iff.2 h28
  by_cases g12 : ((x.kind == (1 : Int)) || (x.kind == (2 : Int))) = true
  focus
    rw [if_pos g12] at h
    rcases (by intro u0 u1; cases u0 <;> cases u1 <;> simp [Dum] : ∀ u0 u1 : Bool, (u0 || u1) = true → (u0 = true ∧ Dum) ∨ (u0 = false ∧ u1 = true)) (x.kind == (1 : Int)) (x.kind == (2 : Int)) g12 with ⟨h34, h36⟩ | ⟨h34, h36⟩
    clear g12
    all_goals
      by_cases h35 : (x.text == ([] : Bytes)) = true
      rw [if_pos h35] at h
      cases h
      rotate_left
      rw [if_neg h35] at h; replace h35 := Bool.eq_false_iff.2 h35
      cases h
      rotate_left
  rotate_left 4
  rw [if_neg g12] at h; replace g12 := Bool.eq_false_iff.2 g12
  rcases (by intro u0 u1; cases u0 <;> cases u1 <;> simp [Dum] : ∀ u0 u1 : Bool, (u0 || u1) = false → (u0 = false ∧ u1 = false)) (x.kind == (1 : Int)) (x.kind == (2 : Int)) g12 with ⟨h34, h36⟩
  clear g12
  by_cases h38 : (x.kind == (3 : Int)) = true
  rw [if_pos h38] at h
  obtain ⟨v40, h39, h⟩ := Option.bind_eq_some_iff.1 h
  have f13 := snode_Name_ok h39
  try simp only [encx.down, Nat.zero_add, Nat.reduceAdd] at f13
  by_cases g14 : (v40 && ((x.n == (0 : Int)) && ((x.opts.l.length : Int) == (0 : Int)))) = true
  rw [if_pos g14] at h
  rcases (by intro u0 u1 u2; cases u0 <;> cases u1 <;> cases u2 <;> simp [Dum] : ∀ u0 u1 u2 : Bool, (u0 && (u1 && u2)) = true → (u0 = true ∧ u1 = true ∧ u2 = true)) v40 (x.n == (0 : Int)) ((x.opts.l.length : Int) == (0 : Int)) g14 with ⟨h41, h42, h43⟩
  clear g14
  obtain ⟨v45, h44, h⟩ := Option.bind_eq_some_iff.1 h
  have f15 := snode_besides_ok h44
  try simp only [T.Snip.enc_eq, encx.down, Nat.zero_add, Nat.reduceAdd] at f15
  try simp only [h41] at f13 f15
  cases h
  rotate_left
  focus
    rw [if_neg g14] at h; replace g14 := Bool.eq_false_iff.2 g14
    rcases (by intro u0 u1 u2; cases u0 <;> cases u1 <;> cases u2 <;> simp [Dum] : ∀ u0 u1 u2 : Bool, (u0 && (u1 && u2)) = false → (u0 = false ∧ Dum ∧ Dum) ∨ (u0 = true ∧ u1 = false ∧ Dum) ∨ (u0 = true ∧ u1 = true ∧ u2 = false)) v40 (x.n == (0 : Int)) ((x.opts.l.length : Int) == (0 : Int)) g14 with ⟨h41, h42, h43⟩ | ⟨h41, h42, h43⟩ | ⟨h41, h42, h43⟩
    clear g14
    all_goals
      try simp only [h41] at f13
      cases h
      rotate_left
  rotate_left 3
  rw [if_neg h38] at h; replace h38 := Bool.eq_false_iff.2 h38
  cases h
  rotate_left
  all_goals
    refine omega_F rfl fn33 (by rfl) (by rfl) rfl ?_
    simp (disch := first | assumption | rfl | exact Sure.mk (by kernel_rfl)) only [go_sem, coreG.down, tab.down, ↓reduceIte, Nat.reduceLeDiff, Nat.reduceEqDiff, Nat.reduceLT, Nat.reduceAdd, Nat.reduceSub, Nat.reduceMul, reduceCtorEq, Nat.reducePow, T.Snip.enc_eq, *]
def snode_fits_L0_enc : ((Bool) ⊕ (Unit)) → Ex × St
  | .inl y => (Ex.ret, ⟨[(4, AV.pv (PV.bool y))], [], 0⟩)
  | .inr y => (Ex.normal, ⟨[(4, AV.undef)], [], 0⟩)
set_option maxHeartbeats 4000000 in
theorem snode_fits_all : (∀ p r, snode_fits p = some r → O.call 20 [AV.pv (PV.sl p.1.nil (szc 18 p.1.l) (List.map T.Snip.enc p.1.l)), AV.pv (PV.int IntKind.i64 p.2)] [] = some (AV.pv (PV.bool r), [])) ∧ (∀ p r, snode_fits_L0 p = some r → O.loop 20 0 ⟨[(0, AV.pv (PV.sl p.1.nil (szc 18 p.1.l) (List.map T.Snip.enc p.1.l))), (1, AV.pv (PV.int IntKind.i64 p.2.1)), (7, AV.pv (PV.sl p.2.2.1.nil (szc 18 p.2.2.1.l) (List.map T.Snip.enc p.2.2.1.l))), (8, AV.pv (PV.int IntKind.i64 p.2.2.2.1)), (9, AV.pv (PV.int IntKind.i64 p.2.2.2.2))], [], 0⟩ = some (snode_fits_L0_enc r)) := by
  refine snode_fits.mutual_partial_correctness (fun p r => O.call 20 [AV.pv (PV.sl p.1.nil (szc 18 p.1.l) (List.map T.Snip.enc p.1.l)), AV.pv (PV.int IntKind.i64 p.2)] [] = some (AV.pv (PV.bool r), [])) (fun p r => O.loop 20 0 ⟨[(0, AV.pv (PV.sl p.1.nil (szc 18 p.1.l) (List.map T.Snip.enc p.1.l))), (1, AV.pv (PV.int IntKind.i64 p.2.1)), (7, AV.pv (PV.sl p.2.2.1.nil (szc 18 p.2.2.1.l) (List.map T.Snip.enc p.2.2.1.l))), (8, AV.pv (PV.int IntKind.i64 p.2.2.2.1)), (9, AV.pv (PV.int IntKind.i64 p.2.2.2.2))], [], 0⟩ = some (snode_fits_L0_enc r)) ?_ ?_
  · intro snode_fits_L0 ih13
    rintro ⟨l, deep⟩ r h
    dsimp only at h ⊢
    obtain ⟨v2, h1, h⟩ := Option.bind_eq_some_iff.1 h
    have f1 := ih13 _ _ h1
    try dsimp only at f1
    try simp only [T.Snip.enc_eq, encx.down, Nat.zero_add, Nat.reduceAdd] at f1
    rcases v2 with y3 | y4
    dsimp only at h
    simp only [snode_fits_L0_enc, T.Snip.enc_eq, encx.down, Nat.zero_add, Nat.reduceAdd] at f1
    cases h
    clear ih13
    rotate_left
    dsimp only at h
    simp only [snode_fits_L0_enc, T.Snip.enc_eq, encx.down, Nat.zero_add, Nat.reduceAdd] at f1
    cases h
    clear ih13
    rotate_left
    all_goals
      refine omega_F rfl fn20 (by rfl) (by rfl) rfl ?_
      simp (disch := first | assumption | rfl | exact Sure.mk (by kernel_rfl)) only [go_sem, coreG.down, tab.down, ↓reduceIte, Nat.reduceLeDiff, Nat.reduceEqDiff, Nat.reduceLT, Nat.reduceAdd, Nat.reduceSub, Nat.reduceMul, reduceCtorEq, Nat.reducePow, sp20_0, T.Snip.enc_eq, *]
  · intro snode_fits snode_fits_L0 ih12 ih13
    rintro ⟨l, deep, t7, t8, t9⟩ r h
    dsimp only at h ⊢
    by_cases h1 : (decide (t9 < t8)) = true
    rw [if_pos h1] at h
    obtain ⟨x3, h2, h⟩ := Option.bind_eq_some_iff.1 h
    have f1 := geti_nat h2 IntKind.i64
    have f2 := geti_map T.Snip.enc h2
    try simp only [T.Snip.enc_eq, encx.down, Nat.zero_add, Nat.reduceAdd] at f2
    have f3 := geti_szcT h2 18
    obtain ⟨v5, h4, h⟩ := Option.bind_eq_some_iff.1 h
    have f4 := snode_fields_ok h4
    try simp only [T.Snip.enc_eq, encx.down, Nat.zero_add, Nat.reduceAdd] at f4
    by_cases h6 : (!v5) = true
    rw [if_pos h6] at h
    cases h
    show _ = some (snode_fits_L0_enc (.inl _))
    dsimp only [snode_fits_L0_enc]
    clear ih12 ih13
    rotate_left
    rw [if_neg h6] at h; replace h6 := Bool.eq_false_iff.2 h6
    by_cases g5 : ((x3.kind == (0 : Int)) && (decide (t9 > (0 : Int)))) = true
    rw [if_pos g5] at h
    rcases (by intro u0 u1; cases u0 <;> cases u1 <;> simp [Dum] : ∀ u0 u1 : Bool, (u0 && u1) = true → (u0 = true ∧ u1 = true)) (x3.kind == (0 : Int)) (decide (t9 > (0 : Int))) g5 with ⟨h7, h8⟩
    clear g5
    obtain ⟨x10, h9, h⟩ := Option.bind_eq_some_iff.1 h
    have f6 := geti_nat h9 IntKind.i64
    have f7 := geti_map T.Snip.enc h9
    try simp only [T.Snip.enc_eq, encx.down, Nat.zero_add, Nat.reduceAdd] at f7
    have f8 := geti_szcT h9 18
    by_cases h11 : (x10.kind == (0 : Int)) = true
    rw [if_pos h11] at h
    cases h
    show _ = some (snode_fits_L0_enc (.inl _))
    dsimp only [snode_fits_L0_enc]
    clear ih12 ih13
    rotate_left
    rw [if_neg h11] at h; replace h11 := Bool.eq_false_iff.2 h11
    by_cases h12 : x3.has = true
    rw [if_pos h12] at h
    by_cases h13 : (deep == (0 : Int)) = true
    rw [if_pos h13] at h
    try simp only [h12] at f4
    cases h
    show _ = some (snode_fits_L0_enc (.inl _))
    dsimp only [snode_fits_L0_enc]
    clear ih12 ih13
    rotate_left
    rw [if_neg h13] at h; replace h13 := Bool.eq_false_iff.2 h13
    obtain ⟨v15, h14, h⟩ := Option.bind_eq_some_iff.1 h
    have f9 := ih12 _ _ h14
    try dsimp only at f9
    try simp only [T.Snip.enc_eq, encx.down, Nat.zero_add, Nat.reduceAdd] at f9
    by_cases h16 : (!v15) = true
    rw [if_pos h16] at h
    try simp only [h12] at f4 f9
    cases h
    show _ = some (snode_fits_L0_enc (.inl _))
    dsimp only [snode_fits_L0_enc]
    clear ih12 ih13
    rotate_left
    rw [if_neg h16] at h; replace h16 := Bool.eq_false_iff.2 h16
    try simp only [h12] at f4 f9
    have f10 := ih13 _ _ h
    try dsimp only at f10
    try simp only [T.Snip.enc_eq, encx.down, Nat.zero_add, Nat.reduceAdd] at f10
    clear h
    try simp only [h12] at f10
    clear ih12 ih13
    rotate_left
    rw [if_neg h12] at h; replace h12 := Bool.eq_false_iff.2 h12
    try simp only [h12] at f4
    have f11 := ih13 _ _ h
    try dsimp only at f11
    try simp only [T.Snip.enc_eq, encx.down, Nat.zero_add, Nat.reduceAdd] at f11
    clear h
    try simp only [h12] at f11
    clear ih12 ih13
    rotate_left
    focus
      rw [if_neg g5] at h; replace g5 := Bool.eq_false_iff.2 g5
      rcases (by intro u0 u1; cases u0 <;> cases u1 <;> simp [Dum] : ∀ u0 u1 : Bool, (u0 && u1) = false → (u0 = false ∧ Dum) ∨ (u0 = true ∧ u1 = false)) (x3.kind == (0 : Int)) (decide (t9 > (0 : Int))) g5 with ⟨h7, h8⟩ | ⟨h7, h8⟩
      clear g5
      all_goals
        by_cases h22 : x3.has = true
        rw [if_pos h22] at h
        by_cases h23 : (deep == (0 : Int)) = true
        rw [if_pos h23] at h
        try simp only [h22] at f4
        cases h
        show _ = some (snode_fits_L0_enc (.inl _))
        dsimp only [snode_fits_L0_enc]
        clear ih12 ih13
        rotate_left
        rw [if_neg h23] at h; replace h23 := Bool.eq_false_iff.2 h23
        obtain ⟨v25, h24, h⟩ := Option.bind_eq_some_iff.1 h
        have f12 := ih12 _ _ h24
        try dsimp only at f12
        try simp only [T.Snip.enc_eq, encx.down, Nat.zero_add, Nat.reduceAdd] at f12
        by_cases h26 : (!v25) = true
        rw [if_pos h26] at h
        try simp only [h22] at f4 f12
        cases h
        show _ = some (snode_fits_L0_enc (.inl _))
        dsimp only [snode_fits_L0_enc]
        clear ih12 ih13
        rotate_left
        rw [if_neg h26] at h; replace h26 := Bool.eq_false_iff.2 h26
        try simp only [h22] at f4 f12
        have f13 := ih13 _ _ h
        try dsimp only at f13
        try simp only [T.Snip.enc_eq, encx.down, Nat.zero_add, Nat.reduceAdd] at f13
        clear h
        try simp only [h22] at f13
        clear ih12 ih13
        rotate_left
        rw [if_neg h22] at h; replace h22 := Bool.eq_false_iff.2 h22
        try simp only [h22] at f4
        have f14 := ih13 _ _ h
        try dsimp only at f14
        try simp only [T.Snip.enc_eq, encx.down, Nat.zero_add, Nat.reduceAdd] at f14
        clear h
        try simp only [h22] at f14
        clear ih12 ih13
        rotate_left
    rotate_left 8
    rw [if_neg h1] at h; replace h1 := Bool.eq_false_iff.2 h1
    cases h
    show _ = some (snode_fits_L0_enc (.inr _))
    dsimp only [snode_fits_L0_enc]
    clear ih12 ih13
    rotate_left
    all_goals
      refine omega_L fn20 (by rfl) ?_
      simp (disch := first | assumption | rfl | exact Sure.mk (by kernel_rfl)) only [go_sem, coreG.down, tab.down, ↓reduceIte, Nat.reduceLeDiff, Nat.reduceEqDiff, Nat.reduceLT, Nat.reduceAdd, Nat.reduceSub, Nat.reduceMul, reduceCtorEq, Nat.reducePow, sp20_0, T.Snip.enc_eq, *]
set_option maxHeartbeats 4000000 in
theorem snode_fits_ok {l : (Sl T.Snip)} {deep : Int} {r : (Bool)} (h : snode_fits (l, deep) = some r) :
    O.call 20 [AV.pv (PV.sl l.nil (szc 18 l.l) (List.map T.Snip.enc l.l)), AV.pv (PV.int IntKind.i64 deep)] [] = some (AV.pv (PV.bool r), []) := snode_fits_all.1 (l, deep) r h
set_option maxHeartbeats 4000000 in
theorem snode_fits_L0_ok {l : (Sl T.Snip)} {deep : Int} {t7 : (Sl T.Snip)} {t8 : Int} {t9 : Int} {r : ((Bool) ⊕ (Unit))} (h : snode_fits_L0 (l, deep, t7, t8, t9) = some r) :
    O.loop 20 0 ⟨[(0, AV.pv (PV.sl l.nil (szc 18 l.l) (List.map T.Snip.enc l.l))), (1, AV.pv (PV.int IntKind.i64 deep)), (7, AV.pv (PV.sl t7.nil (szc 18 t7.l) (List.map T.Snip.enc t7.l))), (8, AV.pv (PV.int IntKind.i64 t8)), (9, AV.pv (PV.int IntKind.i64 t9))], [], 0⟩ = some (snode_fits_L0_enc r) := snode_fits_all.2 (l, deep, t7, t8, t9) r h
set_option maxHeartbeats 4000000 in
theorem snode_May_ok {l : (Sl T.Snip)} {r : (Bool)} (h : snode_May l = some r) :
    O.call 6 [AV.pv (PV.sl l.nil (szc 18 l.l) (List.map T.Snip.enc l.l))] [] = some (AV.pv (PV.bool r), []) := by
  unfold snode_May at h
  obtain ⟨v2, h1, h⟩ := Option.bind_eq_some_iff.1 h
  have f1 := snode_fits_ok h1
  try simp only [T.Snip.enc_eq, encx.down, Nat.zero_add, Nat.reduceAdd] at f1
  cases h
  rotate_left
  all_goals
    refine omega_F rfl fn6 (by rfl) (by rfl) rfl ?_
    simp (disch := first | assumption | rfl | exact Sure.mk (by kernel_rfl)) only [go_sem, coreG.down, tab.down, ↓reduceIte, Nat.reduceLeDiff, Nat.reduceEqDiff, Nat.reduceLT, Nat.reduceAdd, Nat.reduceSub, Nat.reduceMul, reduceCtorEq, Nat.reducePow, T.Snip.enc_eq, *]
set_option maxHeartbeats 4000000 in
theorem ref20_Deep_all : (∀ p r, ref20_Deep p = some r → O.call 9 [AV.pv (PV.sl p.nil (szc 18 p.l) (List.map T.Snip.enc p.l))] [] = some (AV.pv (PV.int IntKind.i64 r), [])) ∧ (∀ p r, ref20_Deep_L0 p = some r → O.loop 9 0 ⟨[(0, AV.pv (PV.sl p.1.nil (szc 18 p.1.l) (List.map T.Snip.enc p.1.l))), (3, AV.pv (PV.int IntKind.i64 p.2.1)), (4, AV.pv (PV.int IntKind.i64 p.2.2))], [], 0⟩ = some (Ex.normal, ⟨[(3, AV.pv (PV.int IntKind.i64 r))], [], 0⟩)) := by
  refine ref20_Deep.mutual_partial_correctness (fun p r => O.call 9 [AV.pv (PV.sl p.nil (szc 18 p.l) (List.map T.Snip.enc p.l))] [] = some (AV.pv (PV.int IntKind.i64 r), [])) (fun p r => O.loop 9 0 ⟨[(0, AV.pv (PV.sl p.1.nil (szc 18 p.1.l) (List.map T.Snip.enc p.1.l))), (3, AV.pv (PV.int IntKind.i64 p.2.1)), (4, AV.pv (PV.int IntKind.i64 p.2.2))], [], 0⟩ = some (Ex.normal, ⟨[(3, AV.pv (PV.int IntKind.i64 r))], [], 0⟩)) ?_ ?_
  · intro ref20_Deep_L0 ih59
    rintro l r h
    try dsimp only at h ⊢
    obtain ⟨v2, h1, h⟩ := Option.bind_eq_some_iff.1 h
    have f1 := ih59 _ _ h1
    try dsimp only at f1
    try simp only [T.Snip.enc_eq, encx.down, Nat.zero_add, Nat.reduceAdd] at f1
    cases h
    clear ih59
    rotate_left
    all_goals
      refine omega_F rfl fn9 (by rfl) (by rfl) rfl ?_
      simp (disch := first | assumption | rfl | exact Sure.mk (by kernel_rfl)) only [go_sem, coreG.down, tab.down, ↓reduceIte, Nat.reduceLeDiff, Nat.reduceEqDiff, Nat.reduceLT, Nat.reduceAdd, Nat.reduceSub, Nat.reduceMul, reduceCtorEq, Nat.reducePow, sp9_0, T.Snip.enc_eq, *]
  · intro ref20_Deep ref20_Deep_L0 ih58 ih59
    rintro ⟨l, n, i⟩ r h
    dsimp only at h ⊢
    by_cases h1 : (decide (i < (l.l.length : Int))) = true
    rw [if_pos h1] at h
    obtain ⟨x3, h2, h⟩ := Option.bind_eq_some_iff.1 h
    have f1 := geti_nat h2 IntKind.i64
    have f2 := geti_map T.Snip.enc h2
    try simp only [T.Snip.enc_eq, encx.down, Nat.zero_add, Nat.reduceAdd] at f2
    have f3 := geti_szcT h2 18
    obtain ⟨v5, h4, h⟩ := Option.bind_eq_some_iff.1 h
    have f4 := ih58 _ _ h4
    try dsimp only at f4
    try simp only [T.Snip.enc_eq, encx.down, Nat.zero_add, Nat.reduceAdd] at f4
    by_cases h6 : x3.has = true
    rw [if_pos h6] at h
    try simp only [h6] at f4
    have f5 := ih59 _ _ h
    try dsimp only at f5
    try simp only [T.Snip.enc_eq, encx.down, Nat.zero_add, Nat.reduceAdd] at f5
    clear h
    try simp only [h6] at f5
    clear ih58 ih59
    rotate_left
    rw [if_neg h6] at h; replace h6 := Bool.eq_false_iff.2 h6
    try simp only [h6] at f4
    have f6 := ih59 _ _ h
    try dsimp only at f6
    try simp only [T.Snip.enc_eq, encx.down, Nat.zero_add, Nat.reduceAdd] at f6
    clear h
    try simp only [h6] at f6
    clear ih58 ih59
    rotate_left
    rw [if_neg h1] at h; replace h1 := Bool.eq_false_iff.2 h1
    cases h
    clear ih58 ih59
    rotate_left
    all_goals
      refine omega_L fn9 (by rfl) ?_
      simp (disch := first | assumption | rfl | exact Sure.mk (by kernel_rfl)) only [go_sem, coreG.down, tab.down, ↓reduceIte, Nat.reduceLeDiff, Nat.reduceEqDiff, Nat.reduceLT, Nat.reduceAdd, Nat.reduceSub, Nat.reduceMul, reduceCtorEq, Nat.reducePow, sp9_0, T.Snip.enc_eq, *]
set_option maxHeartbeats 4000000 in
theorem ref20_Deep_ok {l : (Sl T.Snip)} {r : (Int)} (h : ref20_Deep l = some r) :
    O.call 9 [AV.pv (PV.sl l.nil (szc 18 l.l) (List.map T.Snip.enc l.l))] [] = some (AV.pv (PV.int IntKind.i64 r), []) := ref20_Deep_all.1 l r h
set_option maxHeartbeats 4000000 in
theorem ref20_Deep_L0_ok {l : (Sl T.Snip)} {n : Int} {i : Int} {r : (Int)} (h : ref20_Deep_L0 (l, n, i) = some r) :
    O.loop 9 0 ⟨[(0, AV.pv (PV.sl l.nil (szc 18 l.l) (List.map T.Snip.enc l.l))), (3, AV.pv (PV.int IntKind.i64 n)), (4, AV.pv (PV.int IntKind.i64 i))], [], 0⟩ = some (Ex.normal, ⟨[(3, AV.pv (PV.int IntKind.i64 r))], [], 0⟩) := ref20_Deep_all.2 (l, n, i) r h
def ref13_Same_L0_enc (a : T.Rx) (b : T.Rx) : ((Bool) ⊕ (Unit)) → Ex × St
  | .inl y => (Ex.ret, ⟨[(2, AV.ptr 0 0), (3, AV.ptr 1 0), (4, AV.pv (PV.bool y))], [(0, Blk.box (List.map AV.pv (T.Rx.enc a))), (1, Blk.box (List.map AV.pv (T.Rx.enc b)))], 2⟩)
  | .inr y => (Ex.normal, ⟨[(2, AV.ptr 0 0), (3, AV.ptr 1 0), (4, AV.undef)], [(0, Blk.box (List.map AV.pv (T.Rx.enc a))), (1, Blk.box (List.map AV.pv (T.Rx.enc b)))], 2⟩)
set_option maxHeartbeats 4000000 in
theorem ref13_Same_L0_ok {i : Int} {a : T.Rx} {b : T.Rx} {r : ((Bool) ⊕ (Unit))} (h : ref13_Same_L0 (i, a, b) = some r) :
    O.loop 47 0 ⟨[(2, AV.ptr 0 0), (3, AV.ptr 1 0), (5, AV.pv (PV.int IntKind.i64 i))], [(0, Blk.box (List.map AV.pv (T.Rx.enc a))), (1, Blk.box (List.map AV.pv (T.Rx.enc b)))], 2⟩ = some (ref13_Same_L0_enc a b r) := by
  refine ref13_Same_L0.partial_correctness (fun p r => O.loop 47 0 ⟨[(2, AV.ptr 0 0), (3, AV.ptr 1 0), (5, AV.pv (PV.int IntKind.i64 p.1))], [(0, Blk.box (List.map AV.pv (T.Rx.enc p.2.1))), (1, Blk.box (List.map AV.pv (T.Rx.enc p.2.2)))], 2⟩ = some (ref13_Same_L0_enc p.2.1 p.2.2 r)) ?_ (i, a, b) r h
  clear h r i a b
  intro ref13_Same_L0 ih64
  rintro ⟨i, a, b⟩ r h
  dsimp only at h ⊢
  by_cases h1 : (decide (i < (a.rows.l.length : Int))) = true
  rw [if_pos h1] at h
  obtain ⟨x3, h2, h⟩ := Option.bind_eq_some_iff.1 h
  have f1 := geti_nat h2 IntKind.i64
  have f2 := geti_map T.Row.enc h2
  try simp only [T.Row.enc_eq, encx.down, Nat.zero_add, Nat.reduceAdd] at f2
  have f3 := geti_szcT h2 2
  obtain ⟨x5, h4, h⟩ := Option.bind_eq_some_iff.1 h
  have f4 := geti_nat h4 IntKind.i64
  have f5 := geti_map T.Row.enc h4
  try simp only [T.Row.enc_eq, encx.down, Nat.zero_add, Nat.reduceAdd] at f5
  have f6 := geti_szcT h4 2
  by_cases h6 : (!(x3.frm == x5.frm && (x3.to == x5.to))) = true
  rw [if_pos h6] at h
  cases h
  show _ = some (ref13_Same_L0_enc _ _ (.inl _))
  dsimp only [ref13_Same_L0_enc]
  clear ih64
  rotate_left
  rw [if_neg h6] at h; replace h6 := Bool.eq_false_iff.2 h6
  have f7 := ih64 _ _ h
  try dsimp only at f7
  try simp only [T.Rx.enc_eq, encx.down, Nat.zero_add, Nat.reduceAdd] at f7
  clear h
  clear ih64
  rotate_left
  rw [if_neg h1] at h; replace h1 := Bool.eq_false_iff.2 h1
  cases h
  show _ = some (ref13_Same_L0_enc _ _ (.inr _))
  dsimp only [ref13_Same_L0_enc]
  clear ih64
  rotate_left
  all_goals
    refine omega_L fn47 (by rfl) ?_
    simp (disch := first | assumption | rfl | exact Sure.mk (by kernel_rfl)) only [go_sem, coreG.down, tab.down, ↓reduceIte, Nat.reduceLeDiff, Nat.reduceEqDiff, Nat.reduceLT, Nat.reduceAdd, Nat.reduceSub, Nat.reduceMul, reduceCtorEq, Nat.reducePow, sp47_0, sp47_2, T.Rx.enc_eq, *]
def ref13_Same_L2_enc (a : T.Rx) (b : T.Rx) : ((Bool) ⊕ (Unit)) → Ex × St
  | .inl y => (Ex.ret, ⟨[(4, AV.pv (PV.bool y))], [(0, Blk.box (List.map AV.pv (T.Rx.enc a))), (1, Blk.box (List.map AV.pv (T.Rx.enc b)))], 2⟩)
  | .inr y => (Ex.normal, ⟨[(4, AV.undef)], [(0, Blk.box (List.map AV.pv (T.Rx.enc a))), (1, Blk.box (List.map AV.pv (T.Rx.enc b)))], 2⟩)
set_option maxHeartbeats 4000000 in
theorem ref13_Same_all : (∀ p r, ref13_Same p = some r → O.call 47 [AV.pv (PV.agg (T.Rx.enc p.1)), AV.pv (PV.agg (T.Rx.enc p.2))] [] = some (AV.pv (PV.bool r), [])) ∧ (∀ p r, ref13_Same_L2 p = some r → O.loop 47 2 ⟨[(2, AV.ptr 0 0), (3, AV.ptr 1 0), (6, AV.pv (PV.int IntKind.i64 p.1))], [(0, Blk.box (List.map AV.pv (T.Rx.enc p.2.1))), (1, Blk.box (List.map AV.pv (T.Rx.enc p.2.2)))], 2⟩ = some (ref13_Same_L2_enc p.2.1 p.2.2 r)) := by
  refine ref13_Same.mutual_partial_correctness (fun p r => O.call 47 [AV.pv (PV.agg (T.Rx.enc p.1)), AV.pv (PV.agg (T.Rx.enc p.2))] [] = some (AV.pv (PV.bool r), [])) (fun p r => O.loop 47 2 ⟨[(2, AV.ptr 0 0), (3, AV.ptr 1 0), (6, AV.pv (PV.int IntKind.i64 p.1))], [(0, Blk.box (List.map AV.pv (T.Rx.enc p.2.1))), (1, Blk.box (List.map AV.pv (T.Rx.enc p.2.2)))], 2⟩ = some (ref13_Same_L2_enc p.2.1 p.2.2 r)) ?_ ?_
  · intro ref13_Same_L2 ih65
    rintro ⟨a, b⟩ r h
    dsimp only at h ⊢
    by_cases g1 : ((a.kind != b.kind) || ((!(a.char == b.char)) || ((!(a.not == b.not)) || ((a.min != b.min) || ((a.max != b.max) || ((!(a.lazy == b.lazy)) || (((a.rows.l.length : Int) != (b.rows.l.length : Int)) || ((a.kids.l.length : Int) != (b.kids.l.length : Int))))))))) = true
    focus
      rw [if_pos g1] at h
      rcases (by intro u0 u1 u2 u3 u4 u5 u6 u7; cases u0 <;> cases u1 <;> cases u2 <;> cases u3 <;> cases u4 <;> cases u5 <;> cases u6 <;> cases u7 <;> simp [Dum] : ∀ u0 u1 u2 u3 u4 u5 u6 u7 : Bool, (u0 || (u1 || (u2 || (u3 || (u4 || (u5 || (u6 || u7))))))) = true → (u0 = true ∧ Dum ∧ Dum ∧ Dum ∧ Dum ∧ Dum ∧ Dum ∧ Dum) ∨ (u0 = false ∧ u1 = true ∧ Dum ∧ Dum ∧ Dum ∧ Dum ∧ Dum ∧ Dum) ∨ (u0 = false ∧ u1 = false ∧ u2 = true ∧ Dum ∧ Dum ∧ Dum ∧ Dum ∧ Dum) ∨ (u0 = false ∧ u1 = false ∧ u2 = false ∧ u3 = true ∧ Dum ∧ Dum ∧ Dum ∧ Dum) ∨ (u0 = false ∧ u1 = false ∧ u2 = false ∧ u3 = false ∧ u4 = true ∧ Dum ∧ Dum ∧ Dum) ∨ (u0 = false ∧ u1 = false ∧ u2 = false ∧ u3 = false ∧ u4 = false ∧ u5 = true ∧ Dum ∧ Dum) ∨ (u0 = false ∧ u1 = false ∧ u2 = false ∧ u3 = false ∧ u4 = false ∧ u5 = false ∧ u6 = true ∧ Dum) ∨ (u0 = false ∧ u1 = false ∧ u2 = false ∧ u3 = false ∧ u4 = false ∧ u5 = false ∧ u6 = false ∧ u7 = true)) (a.kind != b.kind) (!(a.char == b.char)) (!(a.not == b.not)) (a.min != b.min) (a.max != b.max) (!(a.lazy == b.lazy)) ((a.rows.l.length : Int) != (b.rows.l.length : Int)) ((a.kids.l.length : Int) != (b.kids.l.length : Int)) g1 with ⟨h1, h2, h3, h4, h5, h6, h7, h8⟩ | ⟨h1, h2, h3, h4, h5, h6, h7, h8⟩ | ⟨h1, h2, h3, h4, h5, h6, h7, h8⟩ | ⟨h1, h2, h3, h4, h5, h6, h7, h8⟩ | ⟨h1, h2, h3, h4, h5, h6, h7, h8⟩ | ⟨h1, h2, h3, h4, h5, h6, h7, h8⟩ | ⟨h1, h2, h3, h4, h5, h6, h7, h8⟩ | ⟨h1, h2, h3, h4, h5, h6, h7, h8⟩
      clear g1
      all_goals
        cases h
        clear ih65
        rotate_left
    rotate_left 8
    rw [if_neg g1] at h; replace g1 := Bool.eq_false_iff.2 g1
    rcases (by intro u0 u1 u2 u3 u4 u5 u6 u7; cases u0 <;> cases u1 <;> cases u2 <;> cases u3 <;> cases u4 <;> cases u5 <;> cases u6 <;> cases u7 <;> simp [Dum] : ∀ u0 u1 u2 u3 u4 u5 u6 u7 : Bool, (u0 || (u1 || (u2 || (u3 || (u4 || (u5 || (u6 || u7))))))) = false → (u0 = false ∧ u1 = false ∧ u2 = false ∧ u3 = false ∧ u4 = false ∧ u5 = false ∧ u6 = false ∧ u7 = false)) (a.kind != b.kind) (!(a.char == b.char)) (!(a.not == b.not)) (a.min != b.min) (a.max != b.max) (!(a.lazy == b.lazy)) ((a.rows.l.length : Int) != (b.rows.l.length : Int)) ((a.kids.l.length : Int) != (b.kids.l.length : Int)) g1 with ⟨h1, h2, h3, h4, h5, h6, h7, h8⟩
    clear g1
    obtain ⟨v10, h9, h⟩ := Option.bind_eq_some_iff.1 h
    have f2 := ref13_Same_L0_ok h9
    try simp only [T.Rx.enc_eq, encx.down, Nat.zero_add, Nat.reduceAdd] at f2
    rcases v10 with y11 | y12
    dsimp only at h
    simp only [ref13_Same_L0_enc, T.Rx.enc_eq, encx.down, Nat.zero_add, Nat.reduceAdd] at f2
    cases h
    clear ih65
    rotate_left
    dsimp only at h
    simp only [ref13_Same_L0_enc, T.Rx.enc_eq, encx.down, Nat.zero_add, Nat.reduceAdd] at f2
    obtain ⟨v14, h13, h⟩ := Option.bind_eq_some_iff.1 h
    have f3 := ih65 _ _ h13
    try dsimp only at f3
    try simp only [T.Rx.enc_eq, encx.down, Nat.zero_add, Nat.reduceAdd] at f3
    rcases v14 with y15 | y16
    dsimp only at h
    simp only [ref13_Same_L2_enc, T.Rx.enc_eq, encx.down, Nat.zero_add, Nat.reduceAdd] at f3
    cases h
    clear ih65
    rotate_left
    dsimp only at h
    simp only [ref13_Same_L2_enc, T.Rx.enc_eq, encx.down, Nat.zero_add, Nat.reduceAdd] at f3
    cases h
    clear ih65
    rotate_left
    all_goals
      refine omega_F rfl fn47 (by rfl) (by rfl) rfl ?_
      simp (disch := first | assumption | rfl | exact Sure.mk (by kernel_rfl)) only [go_sem, coreG.down, tab.down, ↓reduceIte, Nat.reduceLeDiff, Nat.reduceEqDiff, Nat.reduceLT, Nat.reduceAdd, Nat.reduceSub, Nat.reduceMul, reduceCtorEq, Nat.reducePow, sp47_0, sp47_2, T.Rx.enc_eq, *]
  · intro ref13_Same ref13_Same_L2 ih63 ih65
    rintro ⟨i, a, b⟩ r h
    dsimp only at h ⊢
    by_cases h1 : (decide (i < (a.kids.l.length : Int))) = true
    rw [if_pos h1] at h
    obtain ⟨x3, h2, h⟩ := Option.bind_eq_some_iff.1 h
    have f1 := geti_nat h2 IntKind.i64
    have f2 := geti_map T.Rx.enc h2
    try simp only [T.Rx.enc_eq, encx.down, Nat.zero_add, Nat.reduceAdd] at f2
    have f3 := geti_szcT h2 8
    obtain ⟨x5, h4, h⟩ := Option.bind_eq_some_iff.1 h
    have f4 := geti_nat h4 IntKind.i64
    have f5 := geti_map T.Rx.enc h4
    try simp only [T.Rx.enc_eq, encx.down, Nat.zero_add, Nat.reduceAdd] at f5
    have f6 := geti_szcT h4 8
    obtain ⟨v7, h6, h⟩ := Option.bind_eq_some_iff.1 h
    have f7 := ih63 _ _ h6
    try dsimp only at f7
    try simp only [T.Rx.enc_eq, encx.down, Nat.zero_add, Nat.reduceAdd] at f7
    by_cases h8 : (!v7) = true
    rw [if_pos h8] at h
    cases h
    show _ = some (ref13_Same_L2_enc _ _ (.inl _))
    dsimp only [ref13_Same_L2_enc]
    clear ih63 ih65
    rotate_left
    rw [if_neg h8] at h; replace h8 := Bool.eq_false_iff.2 h8
    have f8 := ih65 _ _ h
    try dsimp only at f8
    try simp only [T.Rx.enc_eq, encx.down, Nat.zero_add, Nat.reduceAdd] at f8
    clear h
    clear ih63 ih65
    rotate_left
    rw [if_neg h1] at h; replace h1 := Bool.eq_false_iff.2 h1
    cases h
    show _ = some (ref13_Same_L2_enc _ _ (.inr _))
    dsimp only [ref13_Same_L2_enc]
    clear ih63 ih65
    rotate_left
    all_goals
      refine omega_L fn47 (by rfl) ?_
      simp (disch := first | assumption | rfl | exact Sure.mk (by kernel_rfl)) only [go_sem, coreG.down, tab.down, ↓reduceIte, Nat.reduceLeDiff, Nat.reduceEqDiff, Nat.reduceLT, Nat.reduceAdd, Nat.reduceSub, Nat.reduceMul, reduceCtorEq, Nat.reducePow, sp47_0, sp47_2, T.Rx.enc_eq, *]
set_option maxHeartbeats 4000000 in
theorem ref13_Same_ok {a : T.Rx} {b : T.Rx} {r : (Bool)} (h : ref13_Same (a, b) = some r) :
    O.call 47 [AV.pv (PV.agg (T.Rx.enc a)), AV.pv (PV.agg (T.Rx.enc b))] [] = some (AV.pv (PV.bool r), []) := ref13_Same_all.1 (a, b) r h
set_option maxHeartbeats 4000000 in
theorem ref13_Same_L2_ok {i : Int} {a : T.Rx} {b : T.Rx} {r : ((Bool) ⊕ (Unit))} (h : ref13_Same_L2 (i, a, b) = some r) :
    O.loop 47 2 ⟨[(2, AV.ptr 0 0), (3, AV.ptr 1 0), (6, AV.pv (PV.int IntKind.i64 i))], [(0, Blk.box (List.map AV.pv (T.Rx.enc a))), (1, Blk.box (List.map AV.pv (T.Rx.enc b)))], 2⟩ = some (ref13_Same_L2_enc a b r) := ref13_Same_all.2 (i, a, b) r h
def ref20_SameForm_L0_enc (a : T.Form) (b : T.Form) : ((Bool) ⊕ (Unit)) → Ex × St
  | .inl y => (Ex.ret, ⟨[(4, AV.pv (PV.bool y))], [(0, Blk.box (List.map AV.pv (T.Form.enc a))), (1, Blk.box (List.map AV.pv (T.Form.enc b)))], 2⟩)
  | .inr y => (Ex.normal, ⟨[(4, AV.undef)], [(0, Blk.box (List.map AV.pv (T.Form.enc a))), (1, Blk.box (List.map AV.pv (T.Form.enc b)))], 2⟩)
set_option maxHeartbeats 4000000 in
theorem ref20_SameForm_L0_ok {i : Int} {a : T.Form} {b : T.Form} {r : ((Bool) ⊕ (Unit))} (h : ref20_SameForm_L0 (i, a, b) = some r) :
    O.loop 34 0 ⟨[(2, AV.ptr 0 0), (3, AV.ptr 1 0), (5, AV.pv (PV.int IntKind.i64 i))], [(0, Blk.box (List.map AV.pv (T.Form.enc a))), (1, Blk.box (List.map AV.pv (T.Form.enc b)))], 2⟩ = some (ref20_SameForm_L0_enc a b r) := by
  refine ref20_SameForm_L0.partial_correctness (fun p r => O.loop 34 0 ⟨[(2, AV.ptr 0 0), (3, AV.ptr 1 0), (5, AV.pv (PV.int IntKind.i64 p.1))], [(0, Blk.box (List.map AV.pv (T.Form.enc p.2.1))), (1, Blk.box (List.map AV.pv (T.Form.enc p.2.2)))], 2⟩ = some (ref20_SameForm_L0_enc p.2.1 p.2.2 r)) ?_ (i, a, b) r h
  clear h r i a b
  intro ref20_SameForm_L0 ih66
  rintro ⟨i, a, b⟩ r h
  dsimp only at h ⊢
  by_cases h1 : (decide (i < (a.fmts.l.length : Int))) = true
  rw [if_pos h1] at h
  obtain ⟨x3, h2, h⟩ := Option.bind_eq_some_iff.1 h
  have f1 := geti_nat h2 IntKind.i64
  have f2 := geti_map T.Fmt.enc h2
  try simp only [T.Fmt.enc_eq, encx.down, Nat.zero_add, Nat.reduceAdd] at f2
  have f3 := geti_szcT h2 5
  obtain ⟨x5, h4, h⟩ := Option.bind_eq_some_iff.1 h
  have f4 := geti_nat h4 IntKind.i64
  have f5 := geti_map T.Fmt.enc h4
  try simp only [T.Fmt.enc_eq, encx.down, Nat.zero_add, Nat.reduceAdd] at f5
  have f6 := geti_szcT h4 5
  by_cases h6 : (!(x3.kind == x5.kind && (x3.n == x5.n && (x3.cas == x5.cas && (x3.thn == x5.thn && (x3.els == x5.els)))))) = true
  rw [if_pos h6] at h
  cases h
  show _ = some (ref20_SameForm_L0_enc _ _ (.inl _))
  dsimp only [ref20_SameForm_L0_enc]
  clear ih66
  rotate_left
  rw [if_neg h6] at h; replace h6 := Bool.eq_false_iff.2 h6
  have f7 := ih66 _ _ h
  try dsimp only at f7
  try simp only [T.Form.enc_eq, encx.down, Nat.zero_add, Nat.reduceAdd] at f7
  clear h
  clear ih66
  rotate_left
  rw [if_neg h1] at h; replace h1 := Bool.eq_false_iff.2 h1
  cases h
  show _ = some (ref20_SameForm_L0_enc _ _ (.inr _))
  dsimp only [ref20_SameForm_L0_enc]
  clear ih66
  rotate_left
  all_goals
    refine omega_L fn34 (by rfl) ?_
    simp (disch := first | assumption | rfl | exact Sure.mk (by kernel_rfl)) only [go_sem, coreG.down, tab.down, ↓reduceIte, Nat.reduceLeDiff, Nat.reduceEqDiff, Nat.reduceLT, Nat.reduceAdd, Nat.reduceSub, Nat.reduceMul, reduceCtorEq, Nat.reducePow, sp34_0, T.Form.enc_eq, *]
set_option maxHeartbeats 4000000 in
theorem ref20_SameForm_ok {a : T.Form} {b : T.Form} {r : (Bool)} (h : ref20_SameForm a b = some r) :
    O.call 34 [AV.pv (PV.agg (T.Form.enc a)), AV.pv (PV.agg (T.Form.enc b))] [] = some (AV.pv (PV.bool r), []) := by
  unfold ref20_SameForm at h
  obtain ⟨v2, h1, h⟩ := Option.bind_eq_some_iff.1 h
  have f1 := ref13_Same_ok h1
  try simp only [T.Rx.enc_eq, encx.down, Nat.zero_add, Nat.reduceAdd] at f1
  by_cases g2 : ((!v2) || ((!(a.fold == b.fold)) || ((!(a.all == b.all)) || ((a.fmts.l.length : Int) != (b.fmts.l.length : Int))))) = true
  focus
    rw [if_pos g2] at h
    rcases (by intro u0 u1 u2 u3; cases u0 <;> cases u1 <;> cases u2 <;> cases u3 <;> simp [Dum] : ∀ u0 u1 u2 u3 : Bool, (u0 || (u1 || (u2 || u3))) = true → (u0 = true ∧ Dum ∧ Dum ∧ Dum) ∨ (u0 = false ∧ u1 = true ∧ Dum ∧ Dum) ∨ (u0 = false ∧ u1 = false ∧ u2 = true ∧ Dum) ∨ (u0 = false ∧ u1 = false ∧ u2 = false ∧ u3 = true)) (!v2) (!(a.fold == b.fold)) (!(a.all == b.all)) ((a.fmts.l.length : Int) != (b.fmts.l.length : Int)) g2 with ⟨h3, h4, h5, h6⟩ | ⟨h3, h4, h5, h6⟩ | ⟨h3, h4, h5, h6⟩ | ⟨h3, h4, h5, h6⟩
    clear g2
    all_goals
      cases h
      rotate_left
  rotate_left 4
  rw [if_neg g2] at h; replace g2 := Bool.eq_false_iff.2 g2
  rcases (by intro u0 u1 u2 u3; cases u0 <;> cases u1 <;> cases u2 <;> cases u3 <;> simp [Dum] : ∀ u0 u1 u2 u3 : Bool, (u0 || (u1 || (u2 || u3))) = false → (u0 = false ∧ u1 = false ∧ u2 = false ∧ u3 = false)) (!v2) (!(a.fold == b.fold)) (!(a.all == b.all)) ((a.fmts.l.length : Int) != (b.fmts.l.length : Int)) g2 with ⟨h3, h4, h5, h6⟩
  clear g2
  obtain ⟨v8, h7, h⟩ := Option.bind_eq_some_iff.1 h
  have f3 := ref20_SameForm_L0_ok h7
  try simp only [T.Form.enc_eq, encx.down, Nat.zero_add, Nat.reduceAdd] at f3
  rcases v8 with y9 | y10
  dsimp only at h
  simp only [ref20_SameForm_L0_enc, T.Form.enc_eq, encx.down, Nat.zero_add, Nat.reduceAdd] at f3
  cases h
  rotate_left
  dsimp only at h
  simp only [ref20_SameForm_L0_enc, T.Form.enc_eq, encx.down, Nat.zero_add, Nat.reduceAdd] at f3
  cases h
  rotate_left
  all_goals
    refine omega_F rfl fn34 (by rfl) (by rfl) rfl ?_
    simp (disch := first | assumption | rfl | exact Sure.mk (by kernel_rfl)) only [go_sem, coreG.down, tab.down, ↓reduceIte, Nat.reduceLeDiff, Nat.reduceEqDiff, Nat.reduceLT, Nat.reduceAdd, Nat.reduceSub, Nat.reduceMul, reduceCtorEq, Nat.reducePow, sp34_0, T.Form.enc_eq, *]
set_option maxHeartbeats 4000000 in
theorem ref13_Parts_all : (∀ p r, ref13_Parts p = some r → O.call 77 [AV.pv (PV.agg (T.Rx.enc p))] [] = some (AV.pv (PV.int IntKind.i64 r), [])) ∧ (∀ p r, ref13_Parts_L0 p = some r → O.loop 77 0 ⟨[(1, AV.ptr 0 0), (3, AV.pv (PV.int IntKind.i64 p.1)), (4, AV.pv (PV.int IntKind.i64 p.2.1))], [(0, Blk.box (List.map AV.pv (T.Rx.enc p.2.2)))], 1⟩ = some (Ex.normal, ⟨[(3, AV.pv (PV.int IntKind.i64 r))], [(0, Blk.box (List.map AV.pv (T.Rx.enc p.2.2)))], 1⟩)) := by
  refine ref13_Parts.mutual_partial_correctness (fun p r => O.call 77 [AV.pv (PV.agg (T.Rx.enc p))] [] = some (AV.pv (PV.int IntKind.i64 r), [])) (fun p r => O.loop 77 0 ⟨[(1, AV.ptr 0 0), (3, AV.pv (PV.int IntKind.i64 p.1)), (4, AV.pv (PV.int IntKind.i64 p.2.1))], [(0, Blk.box (List.map AV.pv (T.Rx.enc p.2.2)))], 1⟩ = some (Ex.normal, ⟨[(3, AV.pv (PV.int IntKind.i64 r))], [(0, Blk.box (List.map AV.pv (T.Rx.enc p.2.2)))], 1⟩)) ?_ ?_
  · intro ref13_Parts_L0 ih71
    rintro x r h
    try dsimp only at h ⊢
    obtain ⟨v2, h1, h⟩ := Option.bind_eq_some_iff.1 h
    have f1 := ih71 _ _ h1
    try dsimp only at f1
    try simp only [T.Rx.enc_eq, encx.down, Nat.zero_add, Nat.reduceAdd] at f1
    cases h
    clear ih71
    rotate_left
    all_goals
      refine omega_F rfl fn77 (by rfl) (by rfl) rfl ?_
      simp (disch := first | assumption | rfl | exact Sure.mk (by kernel_rfl)) only [go_sem, coreG.down, tab.down, ↓reduceIte, Nat.reduceLeDiff, Nat.reduceEqDiff, Nat.reduceLT, Nat.reduceAdd, Nat.reduceSub, Nat.reduceMul, reduceCtorEq, Nat.reducePow, sp77_0, T.Rx.enc_eq, *]
  · intro ref13_Parts ref13_Parts_L0 ih70 ih71
    rintro ⟨n, i, x⟩ r h
    dsimp only at h ⊢
    by_cases h1 : (decide (i < (x.kids.l.length : Int))) = true
    rw [if_pos h1] at h
    obtain ⟨x3, h2, h⟩ := Option.bind_eq_some_iff.1 h
    have f1 := geti_nat h2 IntKind.i64
    have f2 := geti_map T.Rx.enc h2
    try simp only [T.Rx.enc_eq, encx.down, Nat.zero_add, Nat.reduceAdd] at f2
    have f3 := geti_szcT h2 8
    obtain ⟨v5, h4, h⟩ := Option.bind_eq_some_iff.1 h
    have f4 := ih70 _ _ h4
    try dsimp only at f4
    try simp only [T.Rx.enc_eq, encx.down, Nat.zero_add, Nat.reduceAdd] at f4
    have f5 := ih71 _ _ h
    try dsimp only at f5
    try simp only [T.Rx.enc_eq, encx.down, Nat.zero_add, Nat.reduceAdd] at f5
    clear h
    clear ih70 ih71
    rotate_left
    rw [if_neg h1] at h; replace h1 := Bool.eq_false_iff.2 h1
    cases h
    clear ih70 ih71
    rotate_left
    all_goals
      refine omega_L fn77 (by rfl) ?_
      simp (disch := first | assumption | rfl | exact Sure.mk (by kernel_rfl)) only [go_sem, coreG.down, tab.down, ↓reduceIte, Nat.reduceLeDiff, Nat.reduceEqDiff, Nat.reduceLT, Nat.reduceAdd, Nat.reduceSub, Nat.reduceMul, reduceCtorEq, Nat.reducePow, sp77_0, T.Rx.enc_eq, *]
set_option maxHeartbeats 4000000 in
theorem ref13_Parts_ok {x : T.Rx} {r : (Int)} (h : ref13_Parts x = some r) :
    O.call 77 [AV.pv (PV.agg (T.Rx.enc x))] [] = some (AV.pv (PV.int IntKind.i64 r), []) := ref13_Parts_all.1 x r h
set_option maxHeartbeats 4000000 in
theorem ref13_Parts_L0_ok {n : Int} {i : Int} {x : T.Rx} {r : (Int)} (h : ref13_Parts_L0 (n, i, x) = some r) :
    O.loop 77 0 ⟨[(1, AV.ptr 0 0), (3, AV.pv (PV.int IntKind.i64 n)), (4, AV.pv (PV.int IntKind.i64 i))], [(0, Blk.box (List.map AV.pv (T.Rx.enc x)))], 1⟩ = some (Ex.normal, ⟨[(3, AV.pv (PV.int IntKind.i64 r))], [(0, Blk.box (List.map AV.pv (T.Rx.enc x)))], 1⟩) := ref13_Parts_all.2 (n, i, x) r h
set_option maxHeartbeats 4000000 in
theorem ref13_Deep_all : (∀ p r, ref13_Deep p = some r → O.call 78 [AV.pv (PV.agg (T.Rx.enc p))] [] = some (AV.pv (PV.int IntKind.i64 r), [])) ∧ (∀ p r, ref13_Deep_L0 p = some r → O.loop 78 0 ⟨[(1, AV.ptr 0 0), (3, AV.pv (PV.int IntKind.i64 p.1)), (4, AV.pv (PV.int IntKind.i64 p.2.1))], [(0, Blk.box (List.map AV.pv (T.Rx.enc p.2.2)))], 1⟩ = some (Ex.normal, ⟨[(1, AV.ptr 0 0), (3, AV.pv (PV.int IntKind.i64 r))], [(0, Blk.box (List.map AV.pv (T.Rx.enc p.2.2)))], 1⟩)) := by
  refine ref13_Deep.mutual_partial_correctness (fun p r => O.call 78 [AV.pv (PV.agg (T.Rx.enc p))] [] = some (AV.pv (PV.int IntKind.i64 r), [])) (fun p r => O.loop 78 0 ⟨[(1, AV.ptr 0 0), (3, AV.pv (PV.int IntKind.i64 p.1)), (4, AV.pv (PV.int IntKind.i64 p.2.1))], [(0, Blk.box (List.map AV.pv (T.Rx.enc p.2.2)))], 1⟩ = some (Ex.normal, ⟨[(1, AV.ptr 0 0), (3, AV.pv (PV.int IntKind.i64 r))], [(0, Blk.box (List.map AV.pv (T.Rx.enc p.2.2)))], 1⟩)) ?_ ?_
  · intro ref13_Deep_L0 ih73
    rintro x r h
    try dsimp only at h ⊢
    obtain ⟨v2, h1, h⟩ := Option.bind_eq_some_iff.1 h
    have f1 := ih73 _ _ h1
    try dsimp only at f1
    try simp only [T.Rx.enc_eq, encx.down, Nat.zero_add, Nat.reduceAdd] at f1
    by_cases g2 : ((x.kind == (5 : Int)) || (x.kind == (6 : Int))) = true
    focus
      rw [if_pos g2] at h
      rcases (by intro u0 u1; cases u0 <;> cases u1 <;> simp [Dum] : ∀ u0 u1 : Bool, (u0 || u1) = true → (u0 = true ∧ Dum) ∨ (u0 = false ∧ u1 = true)) (x.kind == (5 : Int)) (x.kind == (6 : Int)) g2 with ⟨h3, h4⟩ | ⟨h3, h4⟩
      clear g2
      all_goals
        cases h
        clear ih73
        rotate_left
    rotate_left 2
    rw [if_neg g2] at h; replace g2 := Bool.eq_false_iff.2 g2
    rcases (by intro u0 u1; cases u0 <;> cases u1 <;> simp [Dum] : ∀ u0 u1 : Bool, (u0 || u1) = false → (u0 = false ∧ u1 = false)) (x.kind == (5 : Int)) (x.kind == (6 : Int)) g2 with ⟨h3, h4⟩
    clear g2
    cases h
    clear ih73
    rotate_left
    all_goals
      refine omega_F rfl fn78 (by rfl) (by rfl) rfl ?_
      simp (disch := first | assumption | rfl | exact Sure.mk (by kernel_rfl)) only [go_sem, coreG.down, tab.down, ↓reduceIte, Nat.reduceLeDiff, Nat.reduceEqDiff, Nat.reduceLT, Nat.reduceAdd, Nat.reduceSub, Nat.reduceMul, reduceCtorEq, Nat.reducePow, sp78_0, T.Rx.enc_eq, *]
  · intro ref13_Deep ref13_Deep_L0 ih72 ih73
    rintro ⟨n, i, x⟩ r h
    dsimp only at h ⊢
    by_cases h1 : (decide (i < (x.kids.l.length : Int))) = true
    rw [if_pos h1] at h
    obtain ⟨x3, h2, h⟩ := Option.bind_eq_some_iff.1 h
    have f1 := geti_nat h2 IntKind.i64
    have f2 := geti_map T.Rx.enc h2
    try simp only [T.Rx.enc_eq, encx.down, Nat.zero_add, Nat.reduceAdd] at f2
    have f3 := geti_szcT h2 8
    obtain ⟨v5, h4, h⟩ := Option.bind_eq_some_iff.1 h
    have f4 := ih72 _ _ h4
    try dsimp only at f4
    try simp only [T.Rx.enc_eq, encx.down, Nat.zero_add, Nat.reduceAdd] at f4
    have f5 := ih73 _ _ h
    try dsimp only at f5
    try simp only [T.Rx.enc_eq, encx.down, Nat.zero_add, Nat.reduceAdd] at f5
    clear h
    clear ih72 ih73
    rotate_left
    rw [if_neg h1] at h; replace h1 := Bool.eq_false_iff.2 h1
    cases h
    clear ih72 ih73
    rotate_left
    all_goals
      refine omega_L fn78 (by rfl) ?_
      simp (disch := first | assumption | rfl | exact Sure.mk (by kernel_rfl)) only [go_sem, coreG.down, tab.down, ↓reduceIte, Nat.reduceLeDiff, Nat.reduceEqDiff, Nat.reduceLT, Nat.reduceAdd, Nat.reduceSub, Nat.reduceMul, reduceCtorEq, Nat.reducePow, sp78_0, T.Rx.enc_eq, *]
set_option maxHeartbeats 4000000 in
theorem ref13_Deep_ok {x : T.Rx} {r : (Int)} (h : ref13_Deep x = some r) :
    O.call 78 [AV.pv (PV.agg (T.Rx.enc x))] [] = some (AV.pv (PV.int IntKind.i64 r), []) := ref13_Deep_all.1 x r h
set_option maxHeartbeats 4000000 in
theorem ref13_Deep_L0_ok {n : Int} {i : Int} {x : T.Rx} {r : (Int)} (h : ref13_Deep_L0 (n, i, x) = some r) :
    O.loop 78 0 ⟨[(1, AV.ptr 0 0), (3, AV.pv (PV.int IntKind.i64 n)), (4, AV.pv (PV.int IntKind.i64 i))], [(0, Blk.box (List.map AV.pv (T.Rx.enc x)))], 1⟩ = some (Ex.normal, ⟨[(1, AV.ptr 0 0), (3, AV.pv (PV.int IntKind.i64 r))], [(0, Blk.box (List.map AV.pv (T.Rx.enc x)))], 1⟩) := ref13_Deep_all.2 (n, i, x) r h
def ref13_may_L3_enc (n : Int) (x : T.Rx) : ((Bool) ⊕ (Unit)) → Ex × St
  | .inl y => (Ex.ret, ⟨[(1, AV.ptr 0 0), (2, AV.pv (PV.bool y)), (3, AV.pv (PV.int IntKind.i64 n))], [(0, Blk.box (List.map AV.pv (T.Rx.enc x)))], 1⟩)
  | .inr y => (Ex.normal, ⟨[(1, AV.ptr 0 0), (2, AV.undef), (3, AV.pv (PV.int IntKind.i64 n))], [(0, Blk.box (List.map AV.pv (T.Rx.enc x)))], 1⟩)
set_option maxHeartbeats 4000000 in
theorem ref13_may_L3_ok {n : Int} {i : Int} {x : T.Rx} {r : ((Bool) ⊕ (Unit))} (h : ref13_may_L3 (n, i, x) = some r) :
    O.loop 79 3 ⟨[(1, AV.ptr 0 0), (3, AV.pv (PV.int IntKind.i64 n)), (5, AV.pv (PV.int IntKind.i64 i))], [(0, Blk.box (List.map AV.pv (T.Rx.enc x)))], 1⟩ = some (ref13_may_L3_enc n x r) := by
  refine ref13_may_L3.partial_correctness (fun p r => O.loop 79 3 ⟨[(1, AV.ptr 0 0), (3, AV.pv (PV.int IntKind.i64 p.1)), (5, AV.pv (PV.int IntKind.i64 p.2.1))], [(0, Blk.box (List.map AV.pv (T.Rx.enc p.2.2)))], 1⟩ = some (ref13_may_L3_enc p.1 p.2.2 r)) ?_ (n, i, x) r h
  clear h r n i x
  intro ref13_may_L3 ih76
  rintro ⟨n, i, x⟩ r h
  dsimp only at h ⊢
  by_cases h1 : (decide (i < n)) = true
  rw [if_pos h1] at h
  obtain ⟨x3, h2, h⟩ := Option.bind_eq_some_iff.1 h
  have f1 := geti_nat h2 IntKind.i64
  have f2 := geti_map T.Rx.enc h2
  try simp only [T.Rx.enc_eq, encx.down, Nat.zero_add, Nat.reduceAdd] at f2
  have f3 := geti_szcT h2 8
  by_cases h4 : (x3.kind == (0 : Int)) = true
  rw [if_pos h4] at h
  cases h
  show _ = some (ref13_may_L3_enc _ _ (.inl _))
  dsimp only [ref13_may_L3_enc]
  clear ih76
  rotate_left
  rw [if_neg h4] at h; replace h4 := Bool.eq_false_iff.2 h4
  by_cases h5 : (x3.kind == (1 : Int)) = true
  rw [if_pos h5] at h
  cases h
  show _ = some (ref13_may_L3_enc _ _ (.inl _))
  dsimp only [ref13_may_L3_enc]
  clear ih76
  rotate_left
  rw [if_neg h5] at h; replace h5 := Bool.eq_false_iff.2 h5
  have f4 := ih76 _ _ h
  try dsimp only at f4
  try simp only [T.Rx.enc_eq, encx.down, Nat.zero_add, Nat.reduceAdd] at f4
  clear h
  clear ih76
  rotate_left
  rw [if_neg h1] at h; replace h1 := Bool.eq_false_iff.2 h1
  cases h
  show _ = some (ref13_may_L3_enc _ _ (.inr _))
  dsimp only [ref13_may_L3_enc]
  clear ih76
  rotate_left
  all_goals
    refine omega_L fn79 (by rfl) ?_
    simp (disch := first | assumption | rfl | exact Sure.mk (by kernel_rfl)) only [go_sem, coreG.down, tab.down, ↓reduceIte, Nat.reduceLeDiff, Nat.reduceEqDiff, Nat.reduceLT, Nat.reduceAdd, Nat.reduceSub, Nat.reduceMul, reduceCtorEq, Nat.reducePow, sp79_0, sp79_3, sp79_5, T.Rx.enc_eq, *]
set_option maxHeartbeats 4000000 in
theorem ref13_bare_ok {x : T.Rx} {r : (Bool)} (h : ref13_bare x = some r) :
    O.call 89 [AV.pv (PV.agg (T.Rx.enc x))] [] = some (AV.pv (PV.bool r), []) := by
  unfold ref13_bare at h
  by_cases g1 : ((x.char == ([] : Bytes)) && ((!x.not) && (((x.rows.l.length : Int) == (0 : Int)) && ((x.min == (0 : Int)) && (x.max == (0 : Int)))))) = true
  rw [if_pos g1] at h
  rcases (by intro u0 u1 u2 u3 u4; cases u0 <;> cases u1 <;> cases u2 <;> cases u3 <;> cases u4 <;> simp [Dum] : ∀ u0 u1 u2 u3 u4 : Bool, (u0 && (u1 && (u2 && (u3 && u4)))) = true → (u0 = true ∧ u1 = true ∧ u2 = true ∧ u3 = true ∧ u4 = true)) (x.char == ([] : Bytes)) (!x.not) ((x.rows.l.length : Int) == (0 : Int)) (x.min == (0 : Int)) (x.max == (0 : Int)) g1 with ⟨h1, h2, h3, h4, h5⟩
  clear g1
  cases h
  rotate_left
  focus
    rw [if_neg g1] at h; replace g1 := Bool.eq_false_iff.2 g1
    rcases (by intro u0 u1 u2 u3 u4; cases u0 <;> cases u1 <;> cases u2 <;> cases u3 <;> cases u4 <;> simp [Dum] : ∀ u0 u1 u2 u3 u4 : Bool, (u0 && (u1 && (u2 && (u3 && u4)))) = false → (u0 = false ∧ Dum ∧ Dum ∧ Dum ∧ Dum) ∨ (u0 = true ∧ u1 = false ∧ Dum ∧ Dum ∧ Dum) ∨ (u0 = true ∧ u1 = true ∧ u2 = false ∧ Dum ∧ Dum) ∨ (u0 = true ∧ u1 = true ∧ u2 = true ∧ u3 = false ∧ Dum) ∨ (u0 = true ∧ u1 = true ∧ u2 = true ∧ u3 = true ∧ u4 = false)) (x.char == ([] : Bytes)) (!x.not) ((x.rows.l.length : Int) == (0 : Int)) (x.min == (0 : Int)) (x.max == (0 : Int)) g1 with ⟨h1, h2, h3, h4, h5⟩ | ⟨h1, h2, h3, h4, h5⟩ | ⟨h1, h2, h3, h4, h5⟩ | ⟨h1, h2, h3, h4, h5⟩ | ⟨h1, h2, h3, h4, h5⟩
    clear g1
    all_goals
      cases h
      rotate_left
  rotate_left 5
  all_goals
    refine omega_F rfl fn89 (by rfl) (by rfl) rfl ?_
    simp (disch := first | assumption | rfl | exact Sure.mk (by kernel_rfl)) only [go_sem, coreG.down, tab.down, ↓reduceIte, Nat.reduceLeDiff, Nat.reduceEqDiff, Nat.reduceLT, Nat.reduceAdd, Nat.reduceSub, Nat.reduceMul, reduceCtorEq, Nat.reducePow, T.Rx.enc_eq, *]
def ref13_may_L5_enc (n : Int) (x : T.Rx) : ((Bool) ⊕ (Unit)) → Ex × St
  | .inl y => (Ex.ret, ⟨[(1, AV.ptr 0 0), (2, AV.pv (PV.bool y)), (3, AV.pv (PV.int IntKind.i64 n))], [(0, Blk.box (List.map AV.pv (T.Rx.enc x)))], 1⟩)
  | .inr y => (Ex.normal, ⟨[(1, AV.ptr 0 0), (2, AV.undef), (3, AV.pv (PV.int IntKind.i64 n))], [(0, Blk.box (List.map AV.pv (T.Rx.enc x)))], 1⟩)
set_option maxHeartbeats 4000000 in
theorem ref13_may_L5_ok {n : Int} {i : Int} {x : T.Rx} {r : ((Bool) ⊕ (Unit))} (h : ref13_may_L5 (n, i, x) = some r) :
    O.loop 79 5 ⟨[(1, AV.ptr 0 0), (3, AV.pv (PV.int IntKind.i64 n)), (6, AV.pv (PV.int IntKind.i64 i))], [(0, Blk.box (List.map AV.pv (T.Rx.enc x)))], 1⟩ = some (ref13_may_L5_enc n x r) := by
  refine ref13_may_L5.partial_correctness (fun p r => O.loop 79 5 ⟨[(1, AV.ptr 0 0), (3, AV.pv (PV.int IntKind.i64 p.1)), (6, AV.pv (PV.int IntKind.i64 p.2.1))], [(0, Blk.box (List.map AV.pv (T.Rx.enc p.2.2)))], 1⟩ = some (ref13_may_L5_enc p.1 p.2.2 r)) ?_ (n, i, x) r h
  clear h r n i x
  intro ref13_may_L5 ih78
  rintro ⟨n, i, x⟩ r h
  dsimp only at h ⊢
  by_cases h1 : (decide (i < n)) = true
  rw [if_pos h1] at h
  obtain ⟨x3, h2, h⟩ := Option.bind_eq_some_iff.1 h
  have f1 := geti_nat h2 IntKind.i64
  have f2 := geti_map T.Rx.enc h2
  try simp only [T.Rx.enc_eq, encx.down, Nat.zero_add, Nat.reduceAdd] at f2
  have f3 := geti_szcT h2 8
  by_cases h4 : (x3.kind == (1 : Int)) = true
  rw [if_pos h4] at h
  cases h
  show _ = some (ref13_may_L5_enc _ _ (.inl _))
  dsimp only [ref13_may_L5_enc]
  clear ih78
  rotate_left
  rw [if_neg h4] at h; replace h4 := Bool.eq_false_iff.2 h4
  have f4 := ih78 _ _ h
  try dsimp only at f4
  try simp only [T.Rx.enc_eq, encx.down, Nat.zero_add, Nat.reduceAdd] at f4
  clear h
  clear ih78
  rotate_left
  rw [if_neg h1] at h; replace h1 := Bool.eq_false_iff.2 h1
  cases h
  show _ = some (ref13_may_L5_enc _ _ (.inr _))
  dsimp only [ref13_may_L5_enc]
  clear ih78
  rotate_left
  all_goals
    refine omega_L fn79 (by rfl) ?_
    simp (disch := first | assumption | rfl | exact Sure.mk (by kernel_rfl)) only [go_sem, coreG.down, tab.down, ↓reduceIte, Nat.reduceLeDiff, Nat.reduceEqDiff, Nat.reduceLT, Nat.reduceAdd, Nat.reduceSub, Nat.reduceMul, reduceCtorEq, Nat.reducePow, sp79_0, sp79_3, sp79_5, T.Rx.enc_eq, *]
set_option maxHeartbeats 4000000 in
theorem ref2_Lead_ok {c : UInt8} {r : (Bool)} (h : ref2_Lead c = some r) :
    O.call 98 [AV.pv (PV.int IntKind.u8 (c.toNat : Int))] [] = some (AV.pv (PV.bool r), []) := by
  unfold ref2_Lead at h
  by_cases h1 : (decide ((c.toNat : Int) < (128 : Int))) = true
  rw [if_pos h1] at h
  cases h
  rotate_left
  rw [if_neg h1] at h; replace h1 := Bool.eq_false_iff.2 h1
  cases h
  rotate_left
  all_goals
    refine omega_F rfl fn98 (by rfl) (by rfl) rfl ?_
    simp (disch := first | assumption | rfl | exact Sure.mk (by kernel_rfl)) only [go_sem, coreG.down, tab.down, ↓reduceIte, Nat.reduceLeDiff, Nat.reduceEqDiff, Nat.reduceLT, Nat.reduceAdd, Nat.reduceSub, Nat.reduceMul, reduceCtorEq, Nat.reducePow, *]
set_option maxHeartbeats 4000000 in
theorem ref11_Split_L0_ok {s : Bytes} {frm : Int} {i : Int} {l : (List Bytes)} {r : ((List Bytes))} (h : ref11_Split_L0 (s, frm, i, l) = some r) :
    O.loop 99 0 ⟨[(0, AV.pv (PV.str s)), (3, AV.row 0 l.length 0 l.length), (4, AV.pv (PV.int IntKind.i64 frm)), (5, AV.pv (PV.int IntKind.i64 i))], [(0, Blk.row l.isEmpty (szc 1 l) (List.map strE l))], 1⟩ = some (Ex.normal, ⟨[(3, AV.row 0 r.length 0 r.length)], [(0, Blk.row r.isEmpty (szc 1 r) (List.map strE r))], 1⟩) := by
  refine ref11_Split_L0.partial_correctness (fun p r => O.loop 99 0 ⟨[(0, AV.pv (PV.str p.1)), (3, AV.row 0 p.2.2.2.length 0 p.2.2.2.length), (4, AV.pv (PV.int IntKind.i64 p.2.1)), (5, AV.pv (PV.int IntKind.i64 p.2.2.1))], [(0, Blk.row p.2.2.2.isEmpty (szc 1 p.2.2.2) (List.map strE p.2.2.2))], 1⟩ = some (Ex.normal, ⟨[(3, AV.row 0 r.length 0 r.length)], [(0, Blk.row r.isEmpty (szc 1 r) (List.map strE r))], 1⟩)) ?_ (s, frm, i, l) r h
  clear h r s frm i l
  intro ref11_Split_L0 ih82
  rintro ⟨s, frm, i, l⟩ r h
  dsimp only at h ⊢
  by_cases h1 : (decide (i ≤ (s.length : Int))) = true
  rw [if_pos h1] at h
  by_cases h2 : (i == (s.length : Int)) = true
  rw [if_pos h2] at h
  obtain ⟨r4, h3, h⟩ := Option.bind_eq_some_iff.1 h
  have f1 := sub2_lo h3 IntKind.i64
  have f2 := sub2_hi h3 IntKind.i64
  have f3 := sub2_le h3
  have f4 := sub2_len h3
  have f5 := sub2_eq h3
  by_cases h5 : ¬ (roomOK (l.length + 1) 16 = true)
  rw [if_neg h5] at h; cases h
  replace h5 := Decidable.of_not_not h5; rw [if_pos h5] at h
  have f6 := h5
  have f7 := fun te β nx c0 (h1 : 1 = te.size) (h2 : roomOK (l.length + 1) te.bytes = true) => rowApp_G te β 1 nx strE l c0 [] h1 h2
  have f8 : List.map strE l ++ [[PV.str r4]] = List.map strE (l ++ [r4]) := by simp only [List.map_append, List.map_cons, List.map_nil, u8_nat, u8_wrap, szc_nil, strE]
  have f9 := ih82 _ _ h
  try dsimp only at f9
  try simp only [strE, encx.down, Nat.zero_add, Nat.reduceAdd, f4] at f9
  clear h
  clear ih82
  rotate_left
  rw [if_neg h2] at h; replace h2 := Bool.eq_false_iff.2 h2
  obtain ⟨b7, h6, h⟩ := Option.bind_eq_some_iff.1 h
  have f10 := geti_nat h6 IntKind.i64
  have f11 := geti_at h6
  obtain ⟨v9, h8, h⟩ := Option.bind_eq_some_iff.1 h
  have f12 := ref2_Lead_ok h8
  try simp only [encx.down, Nat.zero_add, Nat.reduceAdd] at f12
  by_cases h10 : v9 = true
  rw [if_pos h10] at h
  obtain ⟨r12, h11, h⟩ := Option.bind_eq_some_iff.1 h
  have f13 := sub2_lo h11 IntKind.i64
  have f14 := sub2_hi h11 IntKind.i64
  have f15 := sub2_le h11
  have f16 := sub2_len h11
  have f17 := sub2_eq h11
  by_cases h13 : ¬ (roomOK (l.length + 1) 16 = true)
  rw [if_neg h13] at h; cases h
  replace h13 := Decidable.of_not_not h13; rw [if_pos h13] at h
  have f18 := h13
  have f19 := fun te β nx c0 (h1 : 1 = te.size) (h2 : roomOK (l.length + 1) te.bytes = true) => rowApp_G te β 1 nx strE l c0 [] h1 h2
  have f20 : List.map strE l ++ [[PV.str r12]] = List.map strE (l ++ [r12]) := by simp only [List.map_append, List.map_cons, List.map_nil, u8_nat, u8_wrap, szc_nil, strE]
  try simp only [h10, f16] at f12
  have f21 := ih82 _ _ h
  try dsimp only at f21
  try simp only [strE, encx.down, Nat.zero_add, Nat.reduceAdd, f16] at f21
  clear h
  try simp only [h10, f16] at f21
  clear ih82
  rotate_left
  rw [if_neg h10] at h; replace h10 := Bool.eq_false_iff.2 h10
  try simp only [h10] at f12
  have f22 := ih82 _ _ h
  try dsimp only at f22
  try simp only [strE, encx.down, Nat.zero_add, Nat.reduceAdd] at f22
  clear h
  try simp only [h10] at f22
  clear ih82
  rotate_left
  rw [if_neg h1] at h; replace h1 := Bool.eq_false_iff.2 h1
  cases h
  clear ih82
  rotate_left
  all_goals
    refine omega_L fn99 (by rfl) ?_
    simp (disch := first | assumption | rfl | exact Sure.mk (by kernel_rfl)) only [go_sem, coreG.down, tab.down, ↓reduceIte, Nat.reduceLeDiff, Nat.reduceEqDiff, Nat.reduceLT, Nat.reduceAdd, Nat.reduceSub, Nat.reduceMul, reduceCtorEq, Nat.reducePow, sp99_0, strE, *]
set_option maxHeartbeats 4000000 in
theorem ref11_Split_ok {s : Bytes} {r : ((Sl Bytes))} (h : ref11_Split s = some r) :
    O.call 99 [AV.pv (PV.str s)] [] = some (AV.pv (PV.sl r.nil (szc 1 r.l) (List.map strE r.l)), []) := by
  unfold ref11_Split at h
  obtain ⟨v2, h1, h⟩ := Option.bind_eq_some_iff.1 h
  have f1 := ref11_Split_L0_ok h1
  try simp only [strE, encx.down, Nat.zero_add, Nat.reduceAdd] at f1
  cases h
  rotate_left
  all_goals
    refine omega_F rfl fn99 (by rfl) (by rfl) rfl ?_
    simp (disch := first | assumption | rfl | exact Sure.mk (by kernel_rfl)) only [go_sem, coreG.down, tab.down, ↓reduceIte, Nat.reduceLeDiff, Nat.reduceEqDiff, Nat.reduceLT, Nat.reduceAdd, Nat.reduceSub, Nat.reduceMul, reduceCtorEq, Nat.reducePow, sp99_0, strE, *]
set_option maxHeartbeats 4000000 in
theorem ref11_Proper_ok {c : Bytes} {r : (Bool)} (h : ref11_Proper c = some r) :
    O.call 90 [AV.pv (PV.str c)] [] = some (AV.pv (PV.bool r), []) := by
  unfold ref11_Proper at h
  by_cases h1 : (decide ((c.length : Int) > (0 : Int))) = true
  rw [if_pos h1] at h
  obtain ⟨b3, h2, h⟩ := Option.bind_eq_some_iff.1 h
  have f1 := geti_nat h2 IntKind.i64
  have f2 := geti_at h2
  obtain ⟨v5, h4, h⟩ := Option.bind_eq_some_iff.1 h
  have f3 := ref2_Lead_ok h4
  try simp only [encx.down, Nat.zero_add, Nat.reduceAdd] at f3
  by_cases h6 : v5 = true
  rw [if_pos h6] at h
  obtain ⟨v8, h7, h⟩ := Option.bind_eq_some_iff.1 h
  have f4 := ref11_Split_ok h7
  try simp only [strE, encx.down, Nat.zero_add, Nat.reduceAdd] at f4
  try simp only [h6] at f3 f4
  cases h
  rotate_left
  rw [if_neg h6] at h; replace h6 := Bool.eq_false_iff.2 h6
  try simp only [h6] at f3
  cases h
  rotate_left
  rw [if_neg h1] at h; replace h1 := Bool.eq_false_iff.2 h1
  cases h
  rotate_left
  all_goals
    refine omega_F rfl fn90 (by rfl) (by rfl) rfl ?_
    simp (disch := first | assumption | rfl | exact Sure.mk (by kernel_rfl)) only [go_sem, coreG.down, tab.down, ↓reduceIte, Nat.reduceLeDiff, Nat.reduceEqDiff, Nat.reduceLT, Nat.reduceAdd, Nat.reduceSub, Nat.reduceMul, reduceCtorEq, Nat.reducePow, *]
def ref12_May_L0_enc : ((Bool) ⊕ (Unit)) → Ex × St
  | .inl y => (Ex.ret, ⟨[(2, AV.pv (PV.bool y))], [], 0⟩)
  | .inr y => (Ex.normal, ⟨[(2, AV.undef)], [], 0⟩)
set_option maxHeartbeats 4000000 in
theorem ref12_May_L0_ok {rows : (Sl T.Row)} {i : Int} {r : ((Bool) ⊕ (Unit))} (h : ref12_May_L0 (rows, i) = some r) :
    O.loop 91 0 ⟨[(0, AV.pv (PV.sl rows.nil (szc 2 rows.l) (List.map T.Row.enc rows.l))), (3, AV.pv (PV.int IntKind.i64 i))], [], 0⟩ = some (ref12_May_L0_enc r) := by
  refine ref12_May_L0.partial_correctness (fun p r => O.loop 91 0 ⟨[(0, AV.pv (PV.sl p.1.nil (szc 2 p.1.l) (List.map T.Row.enc p.1.l))), (3, AV.pv (PV.int IntKind.i64 p.2))], [], 0⟩ = some (ref12_May_L0_enc r)) ?_ (rows, i) r h
  clear h r rows i
  intro ref12_May_L0 ih84
  rintro ⟨rows, i⟩ r h
  dsimp only at h ⊢
  by_cases h1 : (decide (i < (rows.l.length : Int))) = true
  rw [if_pos h1] at h
  obtain ⟨x3, h2, h⟩ := Option.bind_eq_some_iff.1 h
  have f1 := geti_nat h2 IntKind.i64
  have f2 := geti_map T.Row.enc h2
  try simp only [T.Row.enc_eq, encx.down, Nat.zero_add, Nat.reduceAdd] at f2
  have f3 := geti_szcT h2 2
  obtain ⟨v5, h4, h⟩ := Option.bind_eq_some_iff.1 h
  have f4 := ref11_Proper_ok h4
  try simp only [encx.down, Nat.zero_add, Nat.reduceAdd] at f4
  by_cases h6 : (!v5) = true
  rw [if_pos h6] at h
  cases h
  show _ = some (ref12_May_L0_enc (.inl _))
  dsimp only [ref12_May_L0_enc]
  clear ih84
  rotate_left
  rw [if_neg h6] at h; replace h6 := Bool.eq_false_iff.2 h6
  obtain ⟨v8, h7, h⟩ := Option.bind_eq_some_iff.1 h
  have f5 := ref11_Proper_ok h7
  try simp only [encx.down, Nat.zero_add, Nat.reduceAdd] at f5
  by_cases g6 : ((!v8) || (!(bytesLt x3.frm x3.to || x3.frm == x3.to))) = true
  focus
    rw [if_pos g6] at h
    rcases (by intro u0 u1; cases u0 <;> cases u1 <;> simp [Dum] : ∀ u0 u1 : Bool, (u0 || u1) = true → (u0 = true ∧ Dum) ∨ (u0 = false ∧ u1 = true)) (!v8) (!(bytesLt x3.frm x3.to || x3.frm == x3.to)) g6 with ⟨h9, h10⟩ | ⟨h9, h10⟩
    clear g6
    all_goals
      cases h
      show _ = some (ref12_May_L0_enc (.inl _))
      dsimp only [ref12_May_L0_enc]
      clear ih84
      rotate_left
  rotate_left 2
  rw [if_neg g6] at h; replace g6 := Bool.eq_false_iff.2 g6
  rcases (by intro u0 u1; cases u0 <;> cases u1 <;> simp [Dum] : ∀ u0 u1 : Bool, (u0 || u1) = false → (u0 = false ∧ u1 = false)) (!v8) (!(bytesLt x3.frm x3.to || x3.frm == x3.to)) g6 with ⟨h9, h10⟩
  clear g6
  by_cases h11 : (decide (i > (0 : Int))) = true
  rw [if_pos h11] at h
  obtain ⟨x13, h12, h⟩ := Option.bind_eq_some_iff.1 h
  have f7 := geti_nat h12 IntKind.i64
  have f8 := geti_map T.Row.enc h12
  try simp only [T.Row.enc_eq, encx.down, Nat.zero_add, Nat.reduceAdd] at f8
  have f9 := geti_szcT h12 2
  by_cases h14 : (bytesLt x3.frm x13.to || x3.frm == x13.to) = true
  rw [if_pos h14] at h
  cases h
  show _ = some (ref12_May_L0_enc (.inl _))
  dsimp only [ref12_May_L0_enc]
  clear ih84
  rotate_left
  rw [if_neg h14] at h; replace h14 := Bool.eq_false_iff.2 h14
  have f10 := ih84 _ _ h
  try dsimp only at f10
  try simp only [T.Row.enc_eq, encx.down, Nat.zero_add, Nat.reduceAdd] at f10
  clear h
  clear ih84
  rotate_left
  rw [if_neg h11] at h; replace h11 := Bool.eq_false_iff.2 h11
  have f11 := ih84 _ _ h
  try dsimp only at f11
  try simp only [T.Row.enc_eq, encx.down, Nat.zero_add, Nat.reduceAdd] at f11
  clear h
  clear ih84
  rotate_left
  rw [if_neg h1] at h; replace h1 := Bool.eq_false_iff.2 h1
  cases h
  show _ = some (ref12_May_L0_enc (.inr _))
  dsimp only [ref12_May_L0_enc]
  clear ih84
  rotate_left
  all_goals
    refine omega_L fn91 (by rfl) ?_
    simp (disch := first | assumption | rfl | exact Sure.mk (by kernel_rfl)) only [go_sem, coreG.down, tab.down, ↓reduceIte, Nat.reduceLeDiff, Nat.reduceEqDiff, Nat.reduceLT, Nat.reduceAdd, Nat.reduceSub, Nat.reduceMul, reduceCtorEq, Nat.reducePow, sp91_0, T.Row.enc_eq, *]
set_option maxHeartbeats 4000000 in
theorem ref12_May_ok {rows : (Sl T.Row)} {r : (Bool)} (h : ref12_May rows = some r) :
    O.call 91 [AV.pv (PV.sl rows.nil (szc 2 rows.l) (List.map T.Row.enc rows.l))] [] = some (AV.pv (PV.bool r), []) := by
  unfold ref12_May at h
  obtain ⟨v2, h1, h⟩ := Option.bind_eq_some_iff.1 h
  have f1 := ref12_May_L0_ok h1
  try simp only [T.Row.enc_eq, encx.down, Nat.zero_add, Nat.reduceAdd] at f1
  rcases v2 with y3 | y4
  dsimp only at h
  simp only [ref12_May_L0_enc, T.Row.enc_eq, encx.down, Nat.zero_add, Nat.reduceAdd] at f1
  cases h
  rotate_left
  dsimp only at h
  simp only [ref12_May_L0_enc, T.Row.enc_eq, encx.down, Nat.zero_add, Nat.reduceAdd] at f1
  cases h
  rotate_left
  all_goals
    refine omega_F rfl fn91 (by rfl) (by rfl) rfl ?_
    simp (disch := first | assumption | rfl | exact Sure.mk (by kernel_rfl)) only [go_sem, coreG.down, tab.down, ↓reduceIte, Nat.reduceLeDiff, Nat.reduceEqDiff, Nat.reduceLT, Nat.reduceAdd, Nat.reduceSub, Nat.reduceMul, reduceCtorEq, Nat.reducePow, sp91_0, T.Row.enc_eq, *]
set_option maxHeartbeats 4000000 in
theorem ref13_repeat_ok {x : T.Rx} {r : (Bool)} (h : ref13_repeat x = some r) :
    O.call 92 [AV.pv (PV.agg (T.Rx.enc x))] [] = some (AV.pv (PV.bool r), []) := by
  unfold ref13_repeat at h
  by_cases g1 : (((x.kids.l.length : Int) != (1 : Int)) || ((decide (x.min < (0 : Int))) || ((decide (x.min > (255 : Int))) || ((x.max != ((-1) : Int)) && ((decide (x.max < x.min)) || (decide (x.max > (255 : Int)))))))) = true
  focus
    rw [if_pos g1] at h
    rcases (by intro u0 u1 u2 u3 u4 u5; cases u0 <;> cases u1 <;> cases u2 <;> cases u3 <;> cases u4 <;> cases u5 <;> simp [Dum] : ∀ u0 u1 u2 u3 u4 u5 : Bool, (u0 || (u1 || (u2 || (u3 && (u4 || u5))))) = true → (u0 = true ∧ Dum ∧ Dum ∧ Dum ∧ Dum ∧ Dum) ∨ (u0 = false ∧ u1 = true ∧ Dum ∧ Dum ∧ Dum ∧ Dum) ∨ (u0 = false ∧ u1 = false ∧ u2 = true ∧ Dum ∧ Dum ∧ Dum) ∨ (u0 = false ∧ u1 = false ∧ u2 = false ∧ u3 = true ∧ u4 = true ∧ Dum) ∨ (u0 = false ∧ u1 = false ∧ u2 = false ∧ u3 = true ∧ u4 = false ∧ u5 = true)) ((x.kids.l.length : Int) != (1 : Int)) (decide (x.min < (0 : Int))) (decide (x.min > (255 : Int))) (x.max != ((-1) : Int)) (decide (x.max < x.min)) (decide (x.max > (255 : Int))) g1 with ⟨h1, h2, h3, h4, h5, h6⟩ | ⟨h1, h2, h3, h4, h5, h6⟩ | ⟨h1, h2, h3, h4, h5, h6⟩ | ⟨h1, h2, h3, h4, h5, h6⟩ | ⟨h1, h2, h3, h4, h5, h6⟩
    clear g1
    all_goals
      cases h
      rotate_left
  rotate_left 5
  focus
    rw [if_neg g1] at h; replace g1 := Bool.eq_false_iff.2 g1
    rcases (by intro u0 u1 u2 u3 u4 u5; cases u0 <;> cases u1 <;> cases u2 <;> cases u3 <;> cases u4 <;> cases u5 <;> simp [Dum] : ∀ u0 u1 u2 u3 u4 u5 : Bool, (u0 || (u1 || (u2 || (u3 && (u4 || u5))))) = false → (u0 = false ∧ u1 = false ∧ u2 = false ∧ u3 = false ∧ Dum ∧ Dum) ∨ (u0 = false ∧ u1 = false ∧ u2 = false ∧ u3 = true ∧ u4 = false ∧ u5 = false)) ((x.kids.l.length : Int) != (1 : Int)) (decide (x.min < (0 : Int))) (decide (x.min > (255 : Int))) (x.max != ((-1) : Int)) (decide (x.max < x.min)) (decide (x.max > (255 : Int))) g1 with ⟨h1, h2, h3, h4, h5, h6⟩ | ⟨h1, h2, h3, h4, h5, h6⟩
    clear g1
    all_goals
      obtain ⟨x17, h16, h⟩ := Option.bind_eq_some_iff.1 h
      have f2 := geti_nat h16 IntKind.i64
      have f3 := geti_map T.Rx.enc h16
      try simp only [T.Rx.enc_eq, encx.down, Nat.zero_add, Nat.reduceAdd] at f3
      have f4 := geti_szcT h16 8
      obtain ⟨v19, h18, h⟩ := Option.bind_eq_some_iff.1 h
      have f5 := ref13_bare_ok h18
      try simp only [T.Rx.enc_eq, encx.down, Nat.zero_add, Nat.reduceAdd] at f5
      by_cases h20 : v19 = true
      rw [if_pos h20] at h
      by_cases g6 : ((x17.kind == (2 : Int)) || ((x17.kind == (3 : Int)) || ((x17.kind == (4 : Int)) || (x17.kind == (5 : Int))))) = true
      focus
        rw [if_pos g6] at h
        rcases (by intro u0 u1 u2 u3; cases u0 <;> cases u1 <;> cases u2 <;> cases u3 <;> simp [Dum] : ∀ u0 u1 u2 u3 : Bool, (u0 || (u1 || (u2 || u3))) = true → (u0 = true ∧ Dum ∧ Dum ∧ Dum) ∨ (u0 = false ∧ u1 = true ∧ Dum ∧ Dum) ∨ (u0 = false ∧ u1 = false ∧ u2 = true ∧ Dum) ∨ (u0 = false ∧ u1 = false ∧ u2 = false ∧ u3 = true)) (x17.kind == (2 : Int)) (x17.kind == (3 : Int)) (x17.kind == (4 : Int)) (x17.kind == (5 : Int)) g6 with ⟨h21, h22, h23, h24⟩ | ⟨h21, h22, h23, h24⟩ | ⟨h21, h22, h23, h24⟩ | ⟨h21, h22, h23, h24⟩
        clear g6
        all_goals
          try simp only [h20] at f5
          cases h
          rotate_left
      rotate_left 4
      rw [if_neg g6] at h; replace g6 := Bool.eq_false_iff.2 g6
      rcases (by intro u0 u1 u2 u3; cases u0 <;> cases u1 <;> cases u2 <;> cases u3 <;> simp [Dum] : ∀ u0 u1 u2 u3 : Bool, (u0 || (u1 || (u2 || u3))) = false → (u0 = false ∧ u1 = false ∧ u2 = false ∧ u3 = false)) (x17.kind == (2 : Int)) (x17.kind == (3 : Int)) (x17.kind == (4 : Int)) (x17.kind == (5 : Int)) g6 with ⟨h21, h22, h23, h24⟩
      clear g6
      try simp only [h20] at f5
      cases h
      rotate_left
      rw [if_neg h20] at h; replace h20 := Bool.eq_false_iff.2 h20
      try simp only [h20] at f5
      cases h
      rotate_left
  rotate_left 12
  all_goals
    refine omega_F rfl fn92 (by rfl) (by rfl) rfl ?_
    simp (disch := first | assumption | rfl | exact Sure.mk (by kernel_rfl)) only [go_sem, coreG.down, tab.down, ↓reduceIte, Nat.reduceLeDiff, Nat.reduceEqDiff, Nat.reduceLT, Nat.reduceAdd, Nat.reduceSub, Nat.reduceMul, reduceCtorEq, Nat.reducePow, T.Rx.enc_eq, *]
def ref13_may_L0_enc (n : Int) (x : T.Rx) : ((Bool) ⊕ (Unit)) → Ex × St
  | .inl y => (Ex.ret, ⟨[(1, AV.ptr 0 0), (2, AV.pv (PV.bool y)), (3, AV.pv (PV.int IntKind.i64 n))], [(0, Blk.box (List.map AV.pv (T.Rx.enc x)))], 1⟩)
  | .inr y => (Ex.normal, ⟨[(1, AV.ptr 0 0), (2, AV.undef), (3, AV.pv (PV.int IntKind.i64 n))], [(0, Blk.box (List.map AV.pv (T.Rx.enc x)))], 1⟩)
set_option maxHeartbeats 4000000 in
theorem ref13_may_all : (∀ p r, ref13_may p = some r → O.call 79 [AV.pv (PV.agg (T.Rx.enc p))] [] = some (AV.pv (PV.bool r), [])) ∧ (∀ p r, ref13_may_L0 p = some r → O.loop 79 0 ⟨[(1, AV.ptr 0 0), (3, AV.pv (PV.int IntKind.i64 p.1)), (4, AV.pv (PV.int IntKind.i64 p.2.1))], [(0, Blk.box (List.map AV.pv (T.Rx.enc p.2.2)))], 1⟩ = some (ref13_may_L0_enc p.1 p.2.2 r)) := by
  refine ref13_may.mutual_partial_correctness (fun p r => O.call 79 [AV.pv (PV.agg (T.Rx.enc p))] [] = some (AV.pv (PV.bool r), [])) (fun p r => O.loop 79 0 ⟨[(1, AV.ptr 0 0), (3, AV.pv (PV.int IntKind.i64 p.1)), (4, AV.pv (PV.int IntKind.i64 p.2.1))], [(0, Blk.box (List.map AV.pv (T.Rx.enc p.2.2)))], 1⟩ = some (ref13_may_L0_enc p.1 p.2.2 r)) ?_ ?_
  · intro ref13_may_L0 ih75
    rintro x r h
    try dsimp only at h ⊢
    obtain ⟨v2, h1, h⟩ := Option.bind_eq_some_iff.1 h
    have f1 := ih75 _ _ h1
    try dsimp only at f1
    try simp only [T.Rx.enc_eq, encx.down, Nat.zero_add, Nat.reduceAdd] at f1
    rcases v2 with y3 | y4
    dsimp only at h
    simp only [ref13_may_L0_enc, T.Rx.enc_eq, encx.down, Nat.zero_add, Nat.reduceAdd] at f1
    cases h
    clear ih75
    rotate_left
    dsimp only at h
    simp only [ref13_may_L0_enc, T.Rx.enc_eq, encx.down, Nat.zero_add, Nat.reduceAdd] at f1
    by_cases h5 : (x.kind == (0 : Int)) = true
    rw [if_pos h5] at h
    obtain ⟨v7, h6, h⟩ := Option.bind_eq_some_iff.1 h
    have f2 := ref13_may_L3_ok h6
    try simp only [T.Rx.enc_eq, encx.down, Nat.zero_add, Nat.reduceAdd] at f2
    rcases v7 with y8 | y9
    dsimp only at h
    simp only [ref13_may_L3_enc, T.Rx.enc_eq, encx.down, Nat.zero_add, Nat.reduceAdd] at f2
    cases h
    clear ih75
    rotate_left
    dsimp only at h
    simp only [ref13_may_L3_enc, T.Rx.enc_eq, encx.down, Nat.zero_add, Nat.reduceAdd] at f2
    obtain ⟨v11, h10, h⟩ := Option.bind_eq_some_iff.1 h
    have f3 := ref13_bare_ok h10
    try simp only [T.Rx.enc_eq, encx.down, Nat.zero_add, Nat.reduceAdd] at f3
    by_cases h12 : v11 = true
    rw [if_pos h12] at h
    try simp only [h12] at f1 f2 f3
    cases h
    clear ih75
    rotate_left
    rw [if_neg h12] at h; replace h12 := Bool.eq_false_iff.2 h12
    try simp only [h12] at f1 f2 f3
    cases h
    clear ih75
    rotate_left
    rw [if_neg h5] at h; replace h5 := Bool.eq_false_iff.2 h5
    by_cases h13 : (x.kind == (1 : Int)) = true
    rw [if_pos h13] at h
    obtain ⟨v15, h14, h⟩ := Option.bind_eq_some_iff.1 h
    have f4 := ref13_may_L5_ok h14
    try simp only [T.Rx.enc_eq, encx.down, Nat.zero_add, Nat.reduceAdd] at f4
    rcases v15 with y16 | y17
    dsimp only at h
    simp only [ref13_may_L5_enc, T.Rx.enc_eq, encx.down, Nat.zero_add, Nat.reduceAdd] at f4
    cases h
    clear ih75
    rotate_left
    dsimp only at h
    simp only [ref13_may_L5_enc, T.Rx.enc_eq, encx.down, Nat.zero_add, Nat.reduceAdd] at f4
    obtain ⟨v19, h18, h⟩ := Option.bind_eq_some_iff.1 h
    have f5 := ref13_bare_ok h18
    try simp only [T.Rx.enc_eq, encx.down, Nat.zero_add, Nat.reduceAdd] at f5
    by_cases h20 : v19 = true
    rw [if_pos h20] at h
    try simp only [h20] at f1 f4 f5
    cases h
    clear ih75
    rotate_left
    rw [if_neg h20] at h; replace h20 := Bool.eq_false_iff.2 h20
    try simp only [h20] at f1 f4 f5
    cases h
    clear ih75
    rotate_left
    rw [if_neg h13] at h; replace h13 := Bool.eq_false_iff.2 h13
    by_cases h21 : (x.kind == (2 : Int)) = true
    rw [if_pos h21] at h
    obtain ⟨v23, h22, h⟩ := Option.bind_eq_some_iff.1 h
    have f6 := ref13_bare_ok h22
    try simp only [T.Rx.enc_eq, encx.down, Nat.zero_add, Nat.reduceAdd] at f6
    by_cases g7 : (v23 && ((x.kids.l.length : Int) == (0 : Int))) = true
    rw [if_pos g7] at h
    rcases (by intro u0 u1; cases u0 <;> cases u1 <;> simp [Dum] : ∀ u0 u1 : Bool, (u0 && u1) = true → (u0 = true ∧ u1 = true)) v23 ((x.kids.l.length : Int) == (0 : Int)) g7 with ⟨h24, h25⟩
    clear g7
    obtain ⟨v27, h26, h⟩ := Option.bind_eq_some_iff.1 h
    have f8 := ref11_Proper_ok h26
    try simp only [encx.down, Nat.zero_add, Nat.reduceAdd] at f8
    try simp only [h24] at f1 f6 f8
    cases h
    clear ih75
    rotate_left
    focus
      rw [if_neg g7] at h; replace g7 := Bool.eq_false_iff.2 g7
      rcases (by intro u0 u1; cases u0 <;> cases u1 <;> simp [Dum] : ∀ u0 u1 : Bool, (u0 && u1) = false → (u0 = false ∧ Dum) ∨ (u0 = true ∧ u1 = false)) v23 ((x.kids.l.length : Int) == (0 : Int)) g7 with ⟨h24, h25⟩ | ⟨h24, h25⟩
      clear g7
      all_goals
        try simp only [h24] at f1 f6
        cases h
        clear ih75
        rotate_left
    rotate_left 2
    rw [if_neg h21] at h; replace h21 := Bool.eq_false_iff.2 h21
    by_cases g9 : ((x.kind == (3 : Int)) || ((x.kind == (8 : Int)) || ((x.kind == (9 : Int)) || ((x.kind == (10 : Int)) || (x.kind == (11 : Int)))))) = true
    focus
      rw [if_pos g9] at h
      rcases (by intro u0 u1 u2 u3 u4; cases u0 <;> cases u1 <;> cases u2 <;> cases u3 <;> cases u4 <;> simp [Dum] : ∀ u0 u1 u2 u3 u4 : Bool, (u0 || (u1 || (u2 || (u3 || u4)))) = true → (u0 = true ∧ Dum ∧ Dum ∧ Dum ∧ Dum) ∨ (u0 = false ∧ u1 = true ∧ Dum ∧ Dum ∧ Dum) ∨ (u0 = false ∧ u1 = false ∧ u2 = true ∧ Dum ∧ Dum) ∨ (u0 = false ∧ u1 = false ∧ u2 = false ∧ u3 = true ∧ Dum) ∨ (u0 = false ∧ u1 = false ∧ u2 = false ∧ u3 = false ∧ u4 = true)) (x.kind == (3 : Int)) (x.kind == (8 : Int)) (x.kind == (9 : Int)) (x.kind == (10 : Int)) (x.kind == (11 : Int)) g9 with ⟨h28, h32, h36, h40, h44⟩ | ⟨h28, h32, h36, h40, h44⟩ | ⟨h28, h32, h36, h40, h44⟩ | ⟨h28, h32, h36, h40, h44⟩ | ⟨h28, h32, h36, h40, h44⟩
      clear g9
      all_goals
        obtain ⟨v30, h29, h⟩ := Option.bind_eq_some_iff.1 h
        have f10 := ref13_bare_ok h29
        try simp only [T.Rx.enc_eq, encx.down, Nat.zero_add, Nat.reduceAdd] at f10
        by_cases h31 : v30 = true
        rw [if_pos h31] at h
        try simp only [h31] at f1 f10
        cases h
        clear ih75
        rotate_left
        rw [if_neg h31] at h; replace h31 := Bool.eq_false_iff.2 h31
        try simp only [h31] at f1 f10
        cases h
        clear ih75
        rotate_left
    rotate_left 10
    rw [if_neg g9] at h; replace g9 := Bool.eq_false_iff.2 g9
    rcases (by intro u0 u1 u2 u3 u4; cases u0 <;> cases u1 <;> cases u2 <;> cases u3 <;> cases u4 <;> simp [Dum] : ∀ u0 u1 u2 u3 u4 : Bool, (u0 || (u1 || (u2 || (u3 || u4)))) = false → (u0 = false ∧ u1 = false ∧ u2 = false ∧ u3 = false ∧ u4 = false)) (x.kind == (3 : Int)) (x.kind == (8 : Int)) (x.kind == (9 : Int)) (x.kind == (10 : Int)) (x.kind == (11 : Int)) g9 with ⟨h28, h32, h36, h40, h44⟩
    clear g9
    by_cases h48 : (x.kind == (4 : Int)) = true
    rw [if_pos h48] at h
    obtain ⟨v50, h49, h⟩ := Option.bind_eq_some_iff.1 h
    have f11 := ref13_bare_ok h49
    try simp only [T.Rx.enc_eq, encx.down, Nat.zero_add, Nat.reduceAdd] at f11
    by_cases g12 : (v50 && ((x.kids.l.length : Int) == (0 : Int))) = true
    rw [if_pos g12] at h
    rcases (by intro u0 u1; cases u0 <;> cases u1 <;> simp [Dum] : ∀ u0 u1 : Bool, (u0 && u1) = true → (u0 = true ∧ u1 = true)) v50 ((x.kids.l.length : Int) == (0 : Int)) g12 with ⟨h51, h52⟩
    clear g12
    obtain ⟨v54, h53, h⟩ := Option.bind_eq_some_iff.1 h
    have f13 := ref12_May_ok h53
    try simp only [T.Row.enc_eq, encx.down, Nat.zero_add, Nat.reduceAdd] at f13
    try simp only [h51] at f1 f11 f13
    cases h
    clear ih75
    rotate_left
    focus
      rw [if_neg g12] at h; replace g12 := Bool.eq_false_iff.2 g12
      rcases (by intro u0 u1; cases u0 <;> cases u1 <;> simp [Dum] : ∀ u0 u1 : Bool, (u0 && u1) = false → (u0 = false ∧ Dum) ∨ (u0 = true ∧ u1 = false)) v50 ((x.kids.l.length : Int) == (0 : Int)) g12 with ⟨h51, h52⟩ | ⟨h51, h52⟩
      clear g12
      all_goals
        try simp only [h51] at f1 f11
        cases h
        clear ih75
        rotate_left
    rotate_left 2
    rw [if_neg h48] at h; replace h48 := Bool.eq_false_iff.2 h48
    by_cases g14 : ((x.kind == (5 : Int)) || (x.kind == (6 : Int))) = true
    focus
      rw [if_pos g14] at h
      rcases (by intro u0 u1; cases u0 <;> cases u1 <;> simp [Dum] : ∀ u0 u1 : Bool, (u0 || u1) = true → (u0 = true ∧ Dum) ∨ (u0 = false ∧ u1 = true)) (x.kind == (5 : Int)) (x.kind == (6 : Int)) g14 with ⟨h55, h59⟩ | ⟨h55, h59⟩
      clear g14
      all_goals
        obtain ⟨v57, h56, h⟩ := Option.bind_eq_some_iff.1 h
        have f15 := ref13_bare_ok h56
        try simp only [T.Rx.enc_eq, encx.down, Nat.zero_add, Nat.reduceAdd] at f15
        by_cases h58 : v57 = true
        rw [if_pos h58] at h
        try simp only [h58] at f1 f15
        cases h
        clear ih75
        rotate_left
        rw [if_neg h58] at h; replace h58 := Bool.eq_false_iff.2 h58
        try simp only [h58] at f1 f15
        cases h
        clear ih75
        rotate_left
    rotate_left 4
    rw [if_neg g14] at h; replace g14 := Bool.eq_false_iff.2 g14
    rcases (by intro u0 u1; cases u0 <;> cases u1 <;> simp [Dum] : ∀ u0 u1 : Bool, (u0 || u1) = false → (u0 = false ∧ u1 = false)) (x.kind == (5 : Int)) (x.kind == (6 : Int)) g14 with ⟨h55, h59⟩
    clear g14
    by_cases h63 : (x.kind == (7 : Int)) = true
    rw [if_pos h63] at h
    obtain ⟨v65, h64, h⟩ := Option.bind_eq_some_iff.1 h
    have f16 := ref13_repeat_ok h64
    try simp only [T.Rx.enc_eq, encx.down, Nat.zero_add, Nat.reduceAdd] at f16
    cases h
    clear ih75
    rotate_left
    rw [if_neg h63] at h; replace h63 := Bool.eq_false_iff.2 h63
    cases h
    clear ih75
    rotate_left
    all_goals
      refine omega_F rfl fn79 (by rfl) (by rfl) rfl ?_
      simp (disch := first | assumption | rfl | exact Sure.mk (by kernel_rfl)) only [go_sem, coreG.down, tab.down, ↓reduceIte, Nat.reduceLeDiff, Nat.reduceEqDiff, Nat.reduceLT, Nat.reduceAdd, Nat.reduceSub, Nat.reduceMul, reduceCtorEq, Nat.reducePow, sp79_0, sp79_3, sp79_5, T.Rx.enc_eq, *]
  · intro ref13_may ref13_may_L0 ih74 ih75
    rintro ⟨n, i, x⟩ r h
    dsimp only at h ⊢
    by_cases h1 : (decide (i < n)) = true
    rw [if_pos h1] at h
    obtain ⟨x3, h2, h⟩ := Option.bind_eq_some_iff.1 h
    have f1 := geti_nat h2 IntKind.i64
    have f2 := geti_map T.Rx.enc h2
    try simp only [T.Rx.enc_eq, encx.down, Nat.zero_add, Nat.reduceAdd] at f2
    have f3 := geti_szcT h2 8
    obtain ⟨v5, h4, h⟩ := Option.bind_eq_some_iff.1 h
    have f4 := ih74 _ _ h4
    try dsimp only at f4
    try simp only [T.Rx.enc_eq, encx.down, Nat.zero_add, Nat.reduceAdd] at f4
    by_cases h6 : (!v5) = true
    rw [if_pos h6] at h
    cases h
    show _ = some (ref13_may_L0_enc _ _ (.inl _))
    dsimp only [ref13_may_L0_enc]
    clear ih74 ih75
    rotate_left
    rw [if_neg h6] at h; replace h6 := Bool.eq_false_iff.2 h6
    have f5 := ih75 _ _ h
    try dsimp only at f5
    try simp only [T.Rx.enc_eq, encx.down, Nat.zero_add, Nat.reduceAdd] at f5
    clear h
    clear ih74 ih75
    rotate_left
    rw [if_neg h1] at h; replace h1 := Bool.eq_false_iff.2 h1
    cases h
    show _ = some (ref13_may_L0_enc _ _ (.inr _))
    dsimp only [ref13_may_L0_enc]
    clear ih74 ih75
    rotate_left
    all_goals
      refine omega_L fn79 (by rfl) ?_
      simp (disch := first | assumption | rfl | exact Sure.mk (by kernel_rfl)) only [go_sem, coreG.down, tab.down, ↓reduceIte, Nat.reduceLeDiff, Nat.reduceEqDiff, Nat.reduceLT, Nat.reduceAdd, Nat.reduceSub, Nat.reduceMul, reduceCtorEq, Nat.reducePow, sp79_0, sp79_3, sp79_5, T.Rx.enc_eq, *]
set_option maxHeartbeats 4000000 in
theorem ref13_may_ok {x : T.Rx} {r : (Bool)} (h : ref13_may x = some r) :
    O.call 79 [AV.pv (PV.agg (T.Rx.enc x))] [] = some (AV.pv (PV.bool r), []) := ref13_may_all.1 x r h
set_option maxHeartbeats 4000000 in
theorem ref13_may_L0_ok {n : Int} {i : Int} {x : T.Rx} {r : ((Bool) ⊕ (Unit))} (h : ref13_may_L0 (n, i, x) = some r) :
    O.loop 79 0 ⟨[(1, AV.ptr 0 0), (3, AV.pv (PV.int IntKind.i64 n)), (4, AV.pv (PV.int IntKind.i64 i))], [(0, Blk.box (List.map AV.pv (T.Rx.enc x)))], 1⟩ = some (ref13_may_L0_enc n x r) := ref13_may_all.2 (n, i, x) r h
set_option maxHeartbeats 4000000 in
theorem ref13_May_ok {x : T.Rx} {r : (Bool)} (h : ref13_May x = some r) :
    O.call 59 [AV.pv (PV.agg (T.Rx.enc x))] [] = some (AV.pv (PV.bool r), []) := by
  unfold ref13_May at h
  obtain ⟨v2, h1, h⟩ := Option.bind_eq_some_iff.1 h
  have f1 := ref13_Parts_ok h1
  try simp only [T.Rx.enc_eq, encx.down, Nat.zero_add, Nat.reduceAdd] at f1
  by_cases h3 : (decide (v2 ≤ (512 : Int))) = true
  rw [if_pos h3] at h
  obtain ⟨v5, h4, h⟩ := Option.bind_eq_some_iff.1 h
  have f2 := ref13_Deep_ok h4
  try simp only [T.Rx.enc_eq, encx.down, Nat.zero_add, Nat.reduceAdd] at f2
  by_cases h6 : (decide (v5 ≤ (16 : Int))) = true
  rw [if_pos h6] at h
  obtain ⟨v8, h7, h⟩ := Option.bind_eq_some_iff.1 h
  have f3 := ref13_may_ok h7
  try simp only [T.Rx.enc_eq, encx.down, Nat.zero_add, Nat.reduceAdd] at f3
  cases h
  rotate_left
  rw [if_neg h6] at h; replace h6 := Bool.eq_false_iff.2 h6
  cases h
  rotate_left
  rw [if_neg h3] at h; replace h3 := Bool.eq_false_iff.2 h3
  cases h
  rotate_left
  all_goals
    refine omega_F rfl fn59 (by rfl) (by rfl) rfl ?_
    simp (disch := first | assumption | rfl | exact Sure.mk (by kernel_rfl)) only [go_sem, coreG.down, tab.down, ↓reduceIte, Nat.reduceLeDiff, Nat.reduceEqDiff, Nat.reduceLT, Nat.reduceAdd, Nat.reduceSub, Nat.reduceMul, reduceCtorEq, Nat.reducePow, T.Rx.enc_eq, *]
set_option maxHeartbeats 4000000 in
theorem ref17_Name_ok {way : Int} {r : (Bytes)} (h : ref17_Name way = some r) :
    O.call 80 [AV.pv (PV.int IntKind.i64 way)] [] = some (AV.pv (PV.str r), []) := by
  unfold ref17_Name at h
  by_cases h1 : (way == (1 : Int)) = true
  rw [if_pos h1] at h
  cases h
  rotate_left
  rw [if_neg h1] at h; replace h1 := Bool.eq_false_iff.2 h1
  by_cases h2 : (way == (2 : Int)) = true
  rw [if_pos h2] at h
  cases h
  rotate_left
  rw [if_neg h2] at h; replace h2 := Bool.eq_false_iff.2 h2
  by_cases h3 : (way == (3 : Int)) = true
  rw [if_pos h3] at h
  cases h
  rotate_left
  rw [if_neg h3] at h; replace h3 := Bool.eq_false_iff.2 h3
  by_cases h4 : (way == (4 : Int)) = true
  rw [if_pos h4] at h
  cases h
  rotate_left
  rw [if_neg h4] at h; replace h4 := Bool.eq_false_iff.2 h4
  by_cases h5 : (way == (5 : Int)) = true
  rw [if_pos h5] at h
  cases h
  rotate_left
  rw [if_neg h5] at h; replace h5 := Bool.eq_false_iff.2 h5
  cases h
  rotate_left
  all_goals
    refine omega_F rfl fn80 (by rfl) (by rfl) rfl ?_
    simp (disch := first | assumption | rfl | exact Sure.mk (by kernel_rfl)) only [go_sem, coreG.down, tab.down, ↓reduceIte, Nat.reduceLeDiff, Nat.reduceEqDiff, Nat.reduceLT, Nat.reduceAdd, Nat.reduceSub, Nat.reduceMul, reduceCtorEq, Nat.reducePow, *]
def ref18_May_L0_enc : ((Bool) ⊕ (Unit)) → Ex × St
  | .inl y => (Ex.ret, ⟨[(2, AV.pv (PV.bool y))], [], 0⟩)
  | .inr y => (Ex.normal, ⟨[(2, AV.undef)], [], 0⟩)
set_option maxHeartbeats 4000000 in
theorem ref18_May_L0_ok {fs : (Sl T.Fmt)} {i : Int} {r : ((Bool) ⊕ (Unit))} (h : ref18_May_L0 (fs, i) = some r) :
    O.loop 60 0 ⟨[(0, AV.pv (PV.sl fs.nil (szc 5 fs.l) (List.map T.Fmt.enc fs.l))), (3, AV.pv (PV.int IntKind.i64 i))], [], 0⟩ = some (ref18_May_L0_enc r) := by
  refine ref18_May_L0.partial_correctness (fun p r => O.loop 60 0 ⟨[(0, AV.pv (PV.sl p.1.nil (szc 5 p.1.l) (List.map T.Fmt.enc p.1.l))), (3, AV.pv (PV.int IntKind.i64 p.2))], [], 0⟩ = some (ref18_May_L0_enc r)) ?_ (fs, i) r h
  clear h r fs i
  intro ref18_May_L0 ih87
  rintro ⟨fs, i⟩ r h
  dsimp only at h ⊢
  by_cases h1 : (decide (i < (fs.l.length : Int))) = true
  rw [if_pos h1] at h
  obtain ⟨x3, h2, h⟩ := Option.bind_eq_some_iff.1 h
  have f1 := geti_nat h2 IntKind.i64
  have f2 := geti_map T.Fmt.enc h2
  try simp only [T.Fmt.enc_eq, encx.down, Nat.zero_add, Nat.reduceAdd] at f2
  have f3 := geti_szcT h2 5
  by_cases h4 : (decide (x3.n ≥ (0 : Int))) = true
  rw [if_pos h4] at h
  by_cases h5 : (x3.kind == (0 : Int)) = true
  rw [if_pos h5] at h
  by_cases g4 : ((x3.n == (0 : Int)) && ((x3.cas == (0 : Int)) && ((x3.els == ([] : Bytes)) && (!(x3.thn == ([] : Bytes)))))) = true
  rw [if_pos g4] at h
  rcases (by intro u0 u1 u2 u3; cases u0 <;> cases u1 <;> cases u2 <;> cases u3 <;> simp [Dum] : ∀ u0 u1 u2 u3 : Bool, (u0 && (u1 && (u2 && u3))) = true → (u0 = true ∧ u1 = true ∧ u2 = true ∧ u3 = true)) (x3.n == (0 : Int)) (x3.cas == (0 : Int)) (x3.els == ([] : Bytes)) (!(x3.thn == ([] : Bytes))) g4 with ⟨h6, h7, h8, h9⟩
  clear g4
  by_cases h10 : (i == (0 : Int)) = true
  rw [if_pos h10] at h
  have f5 := ih87 _ _ h
  try dsimp only at f5
  try simp only [T.Fmt.enc_eq, encx.down, Nat.zero_add, Nat.reduceAdd] at f5
  clear h
  clear ih87
  rotate_left
  rw [if_neg h10] at h; replace h10 := Bool.eq_false_iff.2 h10
  obtain ⟨x12, h11, h⟩ := Option.bind_eq_some_iff.1 h
  have f6 := geti_nat h11 IntKind.i64
  have f7 := geti_map T.Fmt.enc h11
  try simp only [T.Fmt.enc_eq, encx.down, Nat.zero_add, Nat.reduceAdd] at f7
  have f8 := geti_szcT h11 5
  by_cases h13 : (!(x12.kind != (0 : Int))) = true
  rw [if_pos h13] at h
  cases h
  show _ = some (ref18_May_L0_enc (.inl _))
  dsimp only [ref18_May_L0_enc]
  clear ih87
  rotate_left
  rw [if_neg h13] at h; replace h13 := Bool.eq_false_iff.2 h13
  have f9 := ih87 _ _ h
  try dsimp only at f9
  try simp only [T.Fmt.enc_eq, encx.down, Nat.zero_add, Nat.reduceAdd] at f9
  clear h
  clear ih87
  rotate_left
  focus
    rw [if_neg g4] at h; replace g4 := Bool.eq_false_iff.2 g4
    rcases (by intro u0 u1 u2 u3; cases u0 <;> cases u1 <;> cases u2 <;> cases u3 <;> simp [Dum] : ∀ u0 u1 u2 u3 : Bool, (u0 && (u1 && (u2 && u3))) = false → (u0 = false ∧ Dum ∧ Dum ∧ Dum) ∨ (u0 = true ∧ u1 = false ∧ Dum ∧ Dum) ∨ (u0 = true ∧ u1 = true ∧ u2 = false ∧ Dum) ∨ (u0 = true ∧ u1 = true ∧ u2 = true ∧ u3 = false)) (x3.n == (0 : Int)) (x3.cas == (0 : Int)) (x3.els == ([] : Bytes)) (!(x3.thn == ([] : Bytes))) g4 with ⟨h6, h7, h8, h9⟩ | ⟨h6, h7, h8, h9⟩ | ⟨h6, h7, h8, h9⟩ | ⟨h6, h7, h8, h9⟩
    clear g4
    all_goals
      cases h
      show _ = some (ref18_May_L0_enc (.inl _))
      dsimp only [ref18_May_L0_enc]
      clear ih87
      rotate_left
  rotate_left 4
  rw [if_neg h5] at h; replace h5 := Bool.eq_false_iff.2 h5
  by_cases h14 : (x3.kind == (1 : Int)) = true
  rw [if_pos h14] at h
  by_cases g10 : ((decide (x3.n ≤ (9999 : Int))) && ((x3.cas == (0 : Int)) && (x3.thn == ([] : Bytes)))) = true
  rw [if_pos g10] at h
  rcases (by intro u0 u1 u2; cases u0 <;> cases u1 <;> cases u2 <;> simp [Dum] : ∀ u0 u1 u2 : Bool, (u0 && (u1 && u2)) = true → (u0 = true ∧ u1 = true ∧ u2 = true)) (decide (x3.n ≤ (9999 : Int))) (x3.cas == (0 : Int)) (x3.thn == ([] : Bytes)) g10 with ⟨h15, h16, h17⟩
  clear g10
  by_cases h18 : (!(x3.els == ([] : Bytes))) = true
  rw [if_pos h18] at h
  cases h
  show _ = some (ref18_May_L0_enc (.inl _))
  dsimp only [ref18_May_L0_enc]
  clear ih87
  rotate_left
  rw [if_neg h18] at h; replace h18 := Bool.eq_false_iff.2 h18
  have f11 := ih87 _ _ h
  try dsimp only at f11
  try simp only [T.Fmt.enc_eq, encx.down, Nat.zero_add, Nat.reduceAdd] at f11
  clear h
  clear ih87
  rotate_left
  focus
    rw [if_neg g10] at h; replace g10 := Bool.eq_false_iff.2 g10
    rcases (by intro u0 u1 u2; cases u0 <;> cases u1 <;> cases u2 <;> simp [Dum] : ∀ u0 u1 u2 : Bool, (u0 && (u1 && u2)) = false → (u0 = false ∧ Dum ∧ Dum) ∨ (u0 = true ∧ u1 = false ∧ Dum) ∨ (u0 = true ∧ u1 = true ∧ u2 = false)) (decide (x3.n ≤ (9999 : Int))) (x3.cas == (0 : Int)) (x3.thn == ([] : Bytes)) g10 with ⟨h15, h16, h17⟩ | ⟨h15, h16, h17⟩ | ⟨h15, h16, h17⟩
    clear g10
    all_goals
      cases h
      show _ = some (ref18_May_L0_enc (.inl _))
      dsimp only [ref18_May_L0_enc]
      clear ih87
      rotate_left
  rotate_left 3
  rw [if_neg h14] at h; replace h14 := Bool.eq_false_iff.2 h14
  by_cases h19 : (x3.kind == (2 : Int)) = true
  rw [if_pos h19] at h
  by_cases h20 : (decide (x3.n ≤ (9999 : Int))) = true
  rw [if_pos h20] at h
  obtain ⟨v22, h21, h⟩ := Option.bind_eq_some_iff.1 h
  have f12 := ref17_Name_ok h21
  try simp only [encx.down, Nat.zero_add, Nat.reduceAdd] at f12
  by_cases g13 : ((!(v22 == ([] : Bytes))) && (x3.thn == ([] : Bytes))) = true
  rw [if_pos g13] at h
  rcases (by intro u0 u1; cases u0 <;> cases u1 <;> simp [Dum] : ∀ u0 u1 : Bool, (u0 && u1) = true → (u0 = true ∧ u1 = true)) (!(v22 == ([] : Bytes))) (x3.thn == ([] : Bytes)) g13 with ⟨h23, h24⟩
  clear g13
  by_cases h25 : (!(x3.els == ([] : Bytes))) = true
  rw [if_pos h25] at h
  cases h
  show _ = some (ref18_May_L0_enc (.inl _))
  dsimp only [ref18_May_L0_enc]
  clear ih87
  rotate_left
  rw [if_neg h25] at h; replace h25 := Bool.eq_false_iff.2 h25
  have f14 := ih87 _ _ h
  try dsimp only at f14
  try simp only [T.Fmt.enc_eq, encx.down, Nat.zero_add, Nat.reduceAdd] at f14
  clear h
  clear ih87
  rotate_left
  focus
    rw [if_neg g13] at h; replace g13 := Bool.eq_false_iff.2 g13
    rcases (by intro u0 u1; cases u0 <;> cases u1 <;> simp [Dum] : ∀ u0 u1 : Bool, (u0 && u1) = false → (u0 = false ∧ Dum) ∨ (u0 = true ∧ u1 = false)) (!(v22 == ([] : Bytes))) (x3.thn == ([] : Bytes)) g13 with ⟨h23, h24⟩ | ⟨h23, h24⟩
    clear g13
    all_goals
      cases h
      show _ = some (ref18_May_L0_enc (.inl _))
      dsimp only [ref18_May_L0_enc]
      clear ih87
      rotate_left
  rotate_left 2
  rw [if_neg h20] at h; replace h20 := Bool.eq_false_iff.2 h20
  cases h
  show _ = some (ref18_May_L0_enc (.inl _))
  dsimp only [ref18_May_L0_enc]
  clear ih87
  rotate_left
  rw [if_neg h19] at h; replace h19 := Bool.eq_false_iff.2 h19
  by_cases h26 : (x3.kind == (3 : Int)) = true
  rw [if_pos h26] at h
  by_cases g15 : ((decide (x3.n ≤ (9999 : Int))) && (x3.cas == (0 : Int))) = true
  rw [if_pos g15] at h
  rcases (by intro u0 u1; cases u0 <;> cases u1 <;> simp [Dum] : ∀ u0 u1 : Bool, (u0 && u1) = true → (u0 = true ∧ u1 = true)) (decide (x3.n ≤ (9999 : Int))) (x3.cas == (0 : Int)) g15 with ⟨h27, h28⟩
  clear g15
  by_cases h29 : (!(x3.els == ([] : Bytes))) = true
  rw [if_pos h29] at h
  cases h
  show _ = some (ref18_May_L0_enc (.inl _))
  dsimp only [ref18_May_L0_enc]
  clear ih87
  rotate_left
  rw [if_neg h29] at h; replace h29 := Bool.eq_false_iff.2 h29
  have f16 := ih87 _ _ h
  try dsimp only at f16
  try simp only [T.Fmt.enc_eq, encx.down, Nat.zero_add, Nat.reduceAdd] at f16
  clear h
  clear ih87
  rotate_left
  focus
    rw [if_neg g15] at h; replace g15 := Bool.eq_false_iff.2 g15
    rcases (by intro u0 u1; cases u0 <;> cases u1 <;> simp [Dum] : ∀ u0 u1 : Bool, (u0 && u1) = false → (u0 = false ∧ Dum) ∨ (u0 = true ∧ u1 = false)) (decide (x3.n ≤ (9999 : Int))) (x3.cas == (0 : Int)) g15 with ⟨h27, h28⟩ | ⟨h27, h28⟩
    clear g15
    all_goals
      cases h
      show _ = some (ref18_May_L0_enc (.inl _))
      dsimp only [ref18_May_L0_enc]
      clear ih87
      rotate_left
  rotate_left 2
  rw [if_neg h26] at h; replace h26 := Bool.eq_false_iff.2 h26
  by_cases h30 : (x3.kind == (4 : Int)) = true
  rw [if_pos h30] at h
  by_cases g17 : ((decide (x3.n ≤ (9999 : Int))) && (x3.cas == (0 : Int))) = true
  rw [if_pos g17] at h
  rcases (by intro u0 u1; cases u0 <;> cases u1 <;> simp [Dum] : ∀ u0 u1 : Bool, (u0 && u1) = true → (u0 = true ∧ u1 = true)) (decide (x3.n ≤ (9999 : Int))) (x3.cas == (0 : Int)) g17 with ⟨h31, h32⟩
  clear g17
  by_cases h33 : (!(x3.thn == ([] : Bytes))) = true
  rw [if_pos h33] at h
  cases h
  show _ = some (ref18_May_L0_enc (.inl _))
  dsimp only [ref18_May_L0_enc]
  clear ih87
  rotate_left
  rw [if_neg h33] at h; replace h33 := Bool.eq_false_iff.2 h33
  have f18 := ih87 _ _ h
  try dsimp only at f18
  try simp only [T.Fmt.enc_eq, encx.down, Nat.zero_add, Nat.reduceAdd] at f18
  clear h
  clear ih87
  rotate_left
  focus
    rw [if_neg g17] at h; replace g17 := Bool.eq_false_iff.2 g17
    rcases (by intro u0 u1; cases u0 <;> cases u1 <;> simp [Dum] : ∀ u0 u1 : Bool, (u0 && u1) = false → (u0 = false ∧ Dum) ∨ (u0 = true ∧ u1 = false)) (decide (x3.n ≤ (9999 : Int))) (x3.cas == (0 : Int)) g17 with ⟨h31, h32⟩ | ⟨h31, h32⟩
    clear g17
    all_goals
      cases h
      show _ = some (ref18_May_L0_enc (.inl _))
      dsimp only [ref18_May_L0_enc]
      clear ih87
      rotate_left
  rotate_left 2
  rw [if_neg h30] at h; replace h30 := Bool.eq_false_iff.2 h30
  by_cases g19 : ((x3.kind == (5 : Int)) && (decide (x3.n ≤ (9999 : Int)))) = true
  rw [if_pos g19] at h
  rcases (by intro u0 u1; cases u0 <;> cases u1 <;> simp [Dum] : ∀ u0 u1 : Bool, (u0 && u1) = true → (u0 = true ∧ u1 = true)) (x3.kind == (5 : Int)) (decide (x3.n ≤ (9999 : Int))) g19 with ⟨h34, h35⟩
  clear g19
  by_cases h36 : (!(x3.cas == (0 : Int))) = true
  rw [if_pos h36] at h
  cases h
  show _ = some (ref18_May_L0_enc (.inl _))
  dsimp only [ref18_May_L0_enc]
  clear ih87
  rotate_left
  rw [if_neg h36] at h; replace h36 := Bool.eq_false_iff.2 h36
  have f20 := ih87 _ _ h
  try dsimp only at f20
  try simp only [T.Fmt.enc_eq, encx.down, Nat.zero_add, Nat.reduceAdd] at f20
  clear h
  clear ih87
  rotate_left
  focus
    rw [if_neg g19] at h; replace g19 := Bool.eq_false_iff.2 g19
    rcases (by intro u0 u1; cases u0 <;> cases u1 <;> simp [Dum] : ∀ u0 u1 : Bool, (u0 && u1) = false → (u0 = false ∧ Dum) ∨ (u0 = true ∧ u1 = false)) (x3.kind == (5 : Int)) (decide (x3.n ≤ (9999 : Int))) g19 with ⟨h34, h35⟩ | ⟨h34, h35⟩
    clear g19
    all_goals
      cases h
      show _ = some (ref18_May_L0_enc (.inl _))
      dsimp only [ref18_May_L0_enc]
      clear ih87
      rotate_left
  rotate_left 2
  rw [if_neg h4] at h; replace h4 := Bool.eq_false_iff.2 h4
  by_cases h37 : (x3.kind == (0 : Int)) = true
  rw [if_pos h37] at h
  by_cases g21 : ((x3.n == (0 : Int)) && ((x3.cas == (0 : Int)) && ((x3.els == ([] : Bytes)) && (!(x3.thn == ([] : Bytes)))))) = true
  rw [if_pos g21] at h
  rcases (by intro u0 u1 u2 u3; cases u0 <;> cases u1 <;> cases u2 <;> cases u3 <;> simp [Dum] : ∀ u0 u1 u2 u3 : Bool, (u0 && (u1 && (u2 && u3))) = true → (u0 = true ∧ u1 = true ∧ u2 = true ∧ u3 = true)) (x3.n == (0 : Int)) (x3.cas == (0 : Int)) (x3.els == ([] : Bytes)) (!(x3.thn == ([] : Bytes))) g21 with ⟨h38, h39, h40, h41⟩
  clear g21
  by_cases h42 : (i == (0 : Int)) = true
  rw [if_pos h42] at h
  have f22 := ih87 _ _ h
  try dsimp only at f22
  try simp only [T.Fmt.enc_eq, encx.down, Nat.zero_add, Nat.reduceAdd] at f22
  clear h
  clear ih87
  rotate_left
  rw [if_neg h42] at h; replace h42 := Bool.eq_false_iff.2 h42
  obtain ⟨x44, h43, h⟩ := Option.bind_eq_some_iff.1 h
  have f23 := geti_nat h43 IntKind.i64
  have f24 := geti_map T.Fmt.enc h43
  try simp only [T.Fmt.enc_eq, encx.down, Nat.zero_add, Nat.reduceAdd] at f24
  have f25 := geti_szcT h43 5
  by_cases h45 : (!(x44.kind != (0 : Int))) = true
  rw [if_pos h45] at h
  cases h
  show _ = some (ref18_May_L0_enc (.inl _))
  dsimp only [ref18_May_L0_enc]
  clear ih87
  rotate_left
  rw [if_neg h45] at h; replace h45 := Bool.eq_false_iff.2 h45
  have f26 := ih87 _ _ h
  try dsimp only at f26
  try simp only [T.Fmt.enc_eq, encx.down, Nat.zero_add, Nat.reduceAdd] at f26
  clear h
  clear ih87
  rotate_left
  focus
    rw [if_neg g21] at h; replace g21 := Bool.eq_false_iff.2 g21
    rcases (by intro u0 u1 u2 u3; cases u0 <;> cases u1 <;> cases u2 <;> cases u3 <;> simp [Dum] : ∀ u0 u1 u2 u3 : Bool, (u0 && (u1 && (u2 && u3))) = false → (u0 = false ∧ Dum ∧ Dum ∧ Dum) ∨ (u0 = true ∧ u1 = false ∧ Dum ∧ Dum) ∨ (u0 = true ∧ u1 = true ∧ u2 = false ∧ Dum) ∨ (u0 = true ∧ u1 = true ∧ u2 = true ∧ u3 = false)) (x3.n == (0 : Int)) (x3.cas == (0 : Int)) (x3.els == ([] : Bytes)) (!(x3.thn == ([] : Bytes))) g21 with ⟨h38, h39, h40, h41⟩ | ⟨h38, h39, h40, h41⟩ | ⟨h38, h39, h40, h41⟩ | ⟨h38, h39, h40, h41⟩
    clear g21
    all_goals
      cases h
      show _ = some (ref18_May_L0_enc (.inl _))
      dsimp only [ref18_May_L0_enc]
      clear ih87
      rotate_left
  rotate_left 4
  rw [if_neg h37] at h; replace h37 := Bool.eq_false_iff.2 h37
  by_cases g27 : ((x3.kind == (1 : Int)) || ((x3.kind == (2 : Int)) || ((x3.kind == (3 : Int)) || ((x3.kind == (4 : Int)) || (x3.kind == (5 : Int)))))) = true
  focus
    rw [if_pos g27] at h
    rcases (by intro u0 u1 u2 u3 u4; cases u0 <;> cases u1 <;> cases u2 <;> cases u3 <;> cases u4 <;> simp [Dum] : ∀ u0 u1 u2 u3 u4 : Bool, (u0 || (u1 || (u2 || (u3 || u4)))) = true → (u0 = true ∧ Dum ∧ Dum ∧ Dum ∧ Dum) ∨ (u0 = false ∧ u1 = true ∧ Dum ∧ Dum ∧ Dum) ∨ (u0 = false ∧ u1 = false ∧ u2 = true ∧ Dum ∧ Dum) ∨ (u0 = false ∧ u1 = false ∧ u2 = false ∧ u3 = true ∧ Dum) ∨ (u0 = false ∧ u1 = false ∧ u2 = false ∧ u3 = false ∧ u4 = true)) (x3.kind == (1 : Int)) (x3.kind == (2 : Int)) (x3.kind == (3 : Int)) (x3.kind == (4 : Int)) (x3.kind == (5 : Int)) g27 with ⟨h46, h47, h48, h49, h50⟩ | ⟨h46, h47, h48, h49, h50⟩ | ⟨h46, h47, h48, h49, h50⟩ | ⟨h46, h47, h48, h49, h50⟩ | ⟨h46, h47, h48, h49, h50⟩
    clear g27
    all_goals
      cases h
      show _ = some (ref18_May_L0_enc (.inl _))
      dsimp only [ref18_May_L0_enc]
      clear ih87
      rotate_left
  rotate_left 5
  rw [if_neg g27] at h; replace g27 := Bool.eq_false_iff.2 g27
  rcases (by intro u0 u1 u2 u3 u4; cases u0 <;> cases u1 <;> cases u2 <;> cases u3 <;> cases u4 <;> simp [Dum] : ∀ u0 u1 u2 u3 u4 : Bool, (u0 || (u1 || (u2 || (u3 || u4)))) = false → (u0 = false ∧ u1 = false ∧ u2 = false ∧ u3 = false ∧ u4 = false)) (x3.kind == (1 : Int)) (x3.kind == (2 : Int)) (x3.kind == (3 : Int)) (x3.kind == (4 : Int)) (x3.kind == (5 : Int)) g27 with ⟨h46, h47, h48, h49, h50⟩
  clear g27
  cases h
  show _ = some (ref18_May_L0_enc (.inl _))
  dsimp only [ref18_May_L0_enc]
  clear ih87
  rotate_left
  rw [if_neg h1] at h; replace h1 := Bool.eq_false_iff.2 h1
  cases h
  show _ = some (ref18_May_L0_enc (.inr _))
  dsimp only [ref18_May_L0_enc]
  clear ih87
  rotate_left
  all_goals
    refine omega_L fn60 (by rfl) ?_
    simp (disch := first | assumption | rfl | exact Sure.mk (by kernel_rfl)) only [go_sem, coreG.down, tab.down, ↓reduceIte, Nat.reduceLeDiff, Nat.reduceEqDiff, Nat.reduceLT, Nat.reduceAdd, Nat.reduceSub, Nat.reduceMul, reduceCtorEq, Nat.reducePow, sp60_0, T.Fmt.enc_eq, *]
set_option maxHeartbeats 4000000 in
theorem ref18_May_ok {fs : (Sl T.Fmt)} {r : (Bool)} (h : ref18_May fs = some r) :
    O.call 60 [AV.pv (PV.sl fs.nil (szc 5 fs.l) (List.map T.Fmt.enc fs.l))] [] = some (AV.pv (PV.bool r), []) := by
  unfold ref18_May at h
  obtain ⟨v2, h1, h⟩ := Option.bind_eq_some_iff.1 h
  have f1 := ref18_May_L0_ok h1
  try simp only [T.Fmt.enc_eq, encx.down, Nat.zero_add, Nat.reduceAdd] at f1
  rcases v2 with y3 | y4
  dsimp only at h
  simp only [ref18_May_L0_enc, T.Fmt.enc_eq, encx.down, Nat.zero_add, Nat.reduceAdd] at f1
  cases h
  rotate_left
  dsimp only at h
  simp only [ref18_May_L0_enc, T.Fmt.enc_eq, encx.down, Nat.zero_add, Nat.reduceAdd] at f1
  cases h
  rotate_left
  all_goals
    refine omega_F rfl fn60 (by rfl) (by rfl) rfl ?_
    simp (disch := first | assumption | rfl | exact Sure.mk (by kernel_rfl)) only [go_sem, coreG.down, tab.down, ↓reduceIte, Nat.reduceLeDiff, Nat.reduceEqDiff, Nat.reduceLT, Nat.reduceAdd, Nat.reduceSub, Nat.reduceMul, reduceCtorEq, Nat.reducePow, sp60_0, T.Fmt.enc_eq, *]
set_option maxHeartbeats 4000000 in
theorem ref19_May_ok {f : T.Form} {r : (Bool)} (h : ref19_May f = some r) :
    O.call 48 [AV.pv (PV.agg (T.Form.enc f))] [] = some (AV.pv (PV.bool r), []) := by
  unfold ref19_May at h
  obtain ⟨v2, h1, h⟩ := Option.bind_eq_some_iff.1 h
  have f1 := ref13_May_ok h1
  try simp only [T.Rx.enc_eq, encx.down, Nat.zero_add, Nat.reduceAdd] at f1
  by_cases h3 : v2 = true
  rw [if_pos h3] at h
  obtain ⟨v5, h4, h⟩ := Option.bind_eq_some_iff.1 h
  have f2 := ref18_May_ok h4
  try simp only [T.Fmt.enc_eq, encx.down, Nat.zero_add, Nat.reduceAdd] at f2
  try simp only [h3] at f1 f2
  cases h
  rotate_left
  rw [if_neg h3] at h; replace h3 := Bool.eq_false_iff.2 h3
  try simp only [h3] at f1
  cases h
  rotate_left
  all_goals
    refine omega_F rfl fn48 (by rfl) (by rfl) rfl ?_
    simp (disch := first | assumption | rfl | exact Sure.mk (by kernel_rfl)) only [go_sem, coreG.down, tab.down, ↓reduceIte, Nat.reduceLeDiff, Nat.reduceEqDiff, Nat.reduceLT, Nat.reduceAdd, Nat.reduceSub, Nat.reduceMul, reduceCtorEq, Nat.reducePow, T.Form.enc_eq, *]
set_option maxHeartbeats 4000000 in
theorem ref11_Letter_ok {c : UInt8} {r : (Bool)} (h : ref11_Letter c = some r) :
    O.call 49 [AV.pv (PV.int IntKind.u8 (c.toNat : Int))] [] = some (AV.pv (PV.bool r), []) := by
  unfold ref11_Letter at h
  by_cases g1 : ((decide ((c.toNat : Int) ≥ (65 : Int))) && (decide ((c.toNat : Int) ≤ (90 : Int)))) = true
  rw [if_pos g1] at h
  rcases (by intro u0 u1; cases u0 <;> cases u1 <;> simp [Dum] : ∀ u0 u1 : Bool, (u0 && u1) = true → (u0 = true ∧ u1 = true)) (decide ((c.toNat : Int) ≥ (65 : Int))) (decide ((c.toNat : Int) ≤ (90 : Int))) g1 with ⟨h1, h2⟩
  clear g1
  cases h
  rotate_left
  focus
    rw [if_neg g1] at h; replace g1 := Bool.eq_false_iff.2 g1
    rcases (by intro u0 u1; cases u0 <;> cases u1 <;> simp [Dum] : ∀ u0 u1 : Bool, (u0 && u1) = false → (u0 = false ∧ Dum) ∨ (u0 = true ∧ u1 = false)) (decide ((c.toNat : Int) ≥ (65 : Int))) (decide ((c.toNat : Int) ≤ (90 : Int))) g1 with ⟨h1, h2⟩ | ⟨h1, h2⟩
    clear g1
    all_goals
      by_cases h4 : (decide ((c.toNat : Int) ≥ (97 : Int))) = true
      rw [if_pos h4] at h
      cases h
      rotate_left
      rw [if_neg h4] at h; replace h4 := Bool.eq_false_iff.2 h4
      cases h
      rotate_left
  rotate_left 4
  all_goals
    refine omega_F rfl fn49 (by rfl) (by rfl) rfl ?_
    simp (disch := first | assumption | rfl | exact Sure.mk (by kernel_rfl)) only [go_sem, coreG.down, tab.down, ↓reduceIte, Nat.reduceLeDiff, Nat.reduceEqDiff, Nat.reduceLT, Nat.reduceAdd, Nat.reduceSub, Nat.reduceMul, reduceCtorEq, Nat.reducePow, *]
set_option maxHeartbeats 4000000 in
theorem ref11_Digit_ok {c : UInt8} {r : (Bool)} (h : ref11_Digit c = some r) :
    O.call 50 [AV.pv (PV.int IntKind.u8 (c.toNat : Int))] [] = some (AV.pv (PV.bool r), []) := by
  unfold ref11_Digit at h
  by_cases h1 : (decide ((c.toNat : Int) ≥ (48 : Int))) = true
  rw [if_pos h1] at h
  cases h
  rotate_left
  rw [if_neg h1] at h; replace h1 := Bool.eq_false_iff.2 h1
  cases h
  rotate_left
  all_goals
    refine omega_F rfl fn50 (by rfl) (by rfl) rfl ?_
    simp (disch := first | assumption | rfl | exact Sure.mk (by kernel_rfl)) only [go_sem, coreG.down, tab.down, ↓reduceIte, Nat.reduceLeDiff, Nat.reduceEqDiff, Nat.reduceLT, Nat.reduceAdd, Nat.reduceSub, Nat.reduceMul, reduceCtorEq, Nat.reducePow, *]
def ref20_Name_L0_enc : ((Bool) ⊕ (Unit)) → Ex × St
  | .inl y => (Ex.ret, ⟨[(2, AV.pv (PV.bool y))], [], 0⟩)
  | .inr y => (Ex.normal, ⟨[(2, AV.undef)], [], 0⟩)
set_option maxHeartbeats 4000000 in
theorem ref20_Name_L0_ok {s : Bytes} {i : Int} {r : ((Bool) ⊕ (Unit))} (h : ref20_Name_L0 (s, i) = some r) :
    O.loop 36 0 ⟨[(0, AV.pv (PV.str s)), (3, AV.pv (PV.int IntKind.i64 i))], [], 0⟩ = some (ref20_Name_L0_enc r) := by
  refine ref20_Name_L0.partial_correctness (fun p r => O.loop 36 0 ⟨[(0, AV.pv (PV.str p.1)), (3, AV.pv (PV.int IntKind.i64 p.2))], [], 0⟩ = some (ref20_Name_L0_enc r)) ?_ (s, i) r h
  clear h r s i
  intro ref20_Name_L0 ih90
  rintro ⟨s, i⟩ r h
  dsimp only at h ⊢
  by_cases h1 : (decide (i < (s.length : Int))) = true
  rw [if_pos h1] at h
  obtain ⟨b3, h2, h⟩ := Option.bind_eq_some_iff.1 h
  have f1 := geti_nat h2 IntKind.i64
  have f2 := geti_at h2
  obtain ⟨v5, h4, h⟩ := Option.bind_eq_some_iff.1 h
  have f3 := ref11_Letter_ok h4
  try simp only [encx.down, Nat.zero_add, Nat.reduceAdd] at f3
  by_cases h6 : (!v5) = true
  rw [if_pos h6] at h
  by_cases h7 : ((b3.toNat : Int) != (95 : Int)) = true
  rw [if_pos h7] at h
  by_cases h8 : (i == (0 : Int)) = true
  rw [if_pos h8] at h
  cases h
  show _ = some (ref20_Name_L0_enc (.inl _))
  dsimp only [ref20_Name_L0_enc]
  clear ih90
  rotate_left
  rw [if_neg h8] at h; replace h8 := Bool.eq_false_iff.2 h8
  obtain ⟨v10, h9, h⟩ := Option.bind_eq_some_iff.1 h
  have f4 := ref11_Digit_ok h9
  try simp only [encx.down, Nat.zero_add, Nat.reduceAdd] at f4
  by_cases h11 : (!v10) = true
  rw [if_pos h11] at h
  cases h
  show _ = some (ref20_Name_L0_enc (.inl _))
  dsimp only [ref20_Name_L0_enc]
  clear ih90
  rotate_left
  rw [if_neg h11] at h; replace h11 := Bool.eq_false_iff.2 h11
  have f5 := ih90 _ _ h
  try dsimp only at f5
  try simp only [encx.down, Nat.zero_add, Nat.reduceAdd] at f5
  clear h
  clear ih90
  rotate_left
  rw [if_neg h7] at h; replace h7 := Bool.eq_false_iff.2 h7
  have f6 := ih90 _ _ h
  try dsimp only at f6
  try simp only [encx.down, Nat.zero_add, Nat.reduceAdd] at f6
  clear h
  clear ih90
  rotate_left
  rw [if_neg h6] at h; replace h6 := Bool.eq_false_iff.2 h6
  have f7 := ih90 _ _ h
  try dsimp only at f7
  try simp only [encx.down, Nat.zero_add, Nat.reduceAdd] at f7
  clear h
  clear ih90
  rotate_left
  rw [if_neg h1] at h; replace h1 := Bool.eq_false_iff.2 h1
  cases h
  show _ = some (ref20_Name_L0_enc (.inr _))
  dsimp only [ref20_Name_L0_enc]
  clear ih90
  rotate_left
  all_goals
    refine omega_L fn36 (by rfl) ?_
    simp (disch := first | assumption | rfl | exact Sure.mk (by kernel_rfl)) only [go_sem, coreG.down, tab.down, ↓reduceIte, Nat.reduceLeDiff, Nat.reduceEqDiff, Nat.reduceLT, Nat.reduceAdd, Nat.reduceSub, Nat.reduceMul, reduceCtorEq, Nat.reducePow, sp36_0, *]
set_option maxHeartbeats 4000000 in
theorem ref20_Name_ok {s : Bytes} {r : (Bool)} (h : ref20_Name s = some r) :
    O.call 36 [AV.pv (PV.str s)] [] = some (AV.pv (PV.bool r), []) := by
  unfold ref20_Name at h
  by_cases g1 : (((s.length : Int) == (0 : Int)) || (decide ((s.length : Int) > (64 : Int)))) = true
  focus
    rw [if_pos g1] at h
    rcases (by intro u0 u1; cases u0 <;> cases u1 <;> simp [Dum] : ∀ u0 u1 : Bool, (u0 || u1) = true → (u0 = true ∧ Dum) ∨ (u0 = false ∧ u1 = true)) ((s.length : Int) == (0 : Int)) (decide ((s.length : Int) > (64 : Int))) g1 with ⟨h1, h2⟩ | ⟨h1, h2⟩
    clear g1
    all_goals
      cases h
      rotate_left
  rotate_left 2
  rw [if_neg g1] at h; replace g1 := Bool.eq_false_iff.2 g1
  rcases (by intro u0 u1; cases u0 <;> cases u1 <;> simp [Dum] : ∀ u0 u1 : Bool, (u0 || u1) = false → (u0 = false ∧ u1 = false)) ((s.length : Int) == (0 : Int)) (decide ((s.length : Int) > (64 : Int))) g1 with ⟨h1, h2⟩
  clear g1
  obtain ⟨v4, h3, h⟩ := Option.bind_eq_some_iff.1 h
  have f2 := ref20_Name_L0_ok h3
  try simp only [encx.down, Nat.zero_add, Nat.reduceAdd] at f2
  rcases v4 with y5 | y6
  dsimp only at h
  simp only [ref20_Name_L0_enc, encx.down, Nat.zero_add, Nat.reduceAdd] at f2
  cases h
  rotate_left
  dsimp only at h
  simp only [ref20_Name_L0_enc, encx.down, Nat.zero_add, Nat.reduceAdd] at f2
  cases h
  rotate_left
  all_goals
    refine omega_F rfl fn36 (by rfl) (by rfl) rfl ?_
    simp (disch := first | assumption | rfl | exact Sure.mk (by kernel_rfl)) only [go_sem, coreG.down, tab.down, ↓reduceIte, Nat.reduceLeDiff, Nat.reduceEqDiff, Nat.reduceLT, Nat.reduceAdd, Nat.reduceSub, Nat.reduceMul, reduceCtorEq, Nat.reducePow, sp36_0, *]
end Go.Proofs.YtmlmgbnhaenabaaGreat
