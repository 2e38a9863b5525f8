/-
  How much a tree has (what the statements ask of it first).
-/
import Derived.Test.YtmlmgbnhaenabaaNdA
set_option linter.unusedSimpArgs false
set_option linter.unusedVariables false
namespace Go.Proofs.Ytmlmgbnhaenabaa
open Go Go.Gm

/-- What is left behind parts of a format; false: they have more. -/
def fmtsB : List Fmt → Int → Bool × Int
  | [], n => (true, n)
  | f :: l, n => if n ≤ f.then_.length ∨ n ≤ f.else_.length then (false, n) else fmtsB l (n - 1 - f.then_.length - f.else_.length)

theorem fmtsB_size : ∀ (l : List Fmt) (n : Int), (fmtsB l n).1 = true → (fmtsB l n).2 = n - fmtsSz l
  | [], n, _ => by simp [fmtsB, fmtsSz]
  | f :: l, n, h => by
    simp only [fmtsB] at h ⊢
    split at h
    · cases h
    · rename_i c
      rw [if_neg c, fmtsB_size l _ h]
      simp only [fmtsSz, Fmt.size]
      omega

set_option maxRecDepth 100000 in
theorem fmtsLeft_loop (b : Bool) (xs : List Fmt) : ∀ (r : List Fmt) (i : Nat) (n : Int), xs.drop i = r → -2 ^ 61 ≤ n → n + i ≤ 2 ^ 61 →
      O.loop 37 0 ⟨[(0, .pv (.sl b 5 (xs.map Fmt.enc))), (1, .pv (.int .i64 n)), (5, .pv (.int .i64 i))], [], 0⟩ =
        match fmtsB r n with
        | (true, m) => some (.normal, ⟨[(1, .pv (.int .i64 m)), (4, .undef)], [], 0⟩)
        | (false, m) => some (.ret, ⟨[(1, .pv (.int .i64 m)), (4, .pv (.int .i64 (-1)))], [], 0⟩)
  | [], i, n, h, h1, h2 => by
    have hi := drop_none h
    refine omega_L fn37 (by rfl) ?_
    have hc : ¬ ((i : Int) < (xs.length : Int)) := by omega
    simp (disch := first | omega | exact Sure.mk (by kernel_rfl)) only [core.down, tab.down, ↓reduceIte, Nat.reduceLeDiff, Nat.reduceEqDiff, Nat.reduceLT, Nat.reduceAdd, Nat.reduceSub, Nat.reduceMul, reduceCtorEq, Nat.reducePow, needs, aop, aBin, intBin, aLoad, List.toList_toArray, avOf, pvOf, allPV, List.map, List.take, List.drop, List.length_cons, List.length_nil, List.length_map, aStore, AV.stor, AV.cells, List.append, aFieldAddr, List.getElem?_cons_zero, List.getElem?_cons_succ, subHeap, AV.refs, AV.ren, AV.rows, if_true, if_false, List.nil_append, List.append_nil, List.cons_append, tupled, unz, aBuiltin, lenTd, aLen, List.getElem?_nil, touched, beq_self_eq_true, List.isEmpty_nil, Option.some.injEq, ge_iff_le, aUn, pure?, PV.cells, List.replicate, List.set_cons_zero, List.set_cons_succ, aConvert, strBin, sliceOf, bytesOf, eq_self, AV.thaw, Blk.thaw, aSlice, aNil, isNilV, aEq, plainEq, fitAll, keyFits, aMax, maxFrom, aPart, aFind, Blk.ren, Blk.refs, keyEq, aLookup, aUpdate, aEntry, aEntryStore, aDelete, List.flatMap_nil, List.flatMap_cons, gt_iff_lt, sp8_0, sp8_2, sp36_0, sp36_2, sp37_0, coreB.down, hc, fmtsB]
  | f :: r, i, n, h, hn1, hn2 => by
    obtain ⟨h1, h2, h3⟩ := drop_cons h
    have h4 := map_at (f := Fmt.enc) h1
    have hc : ((i : Int) < (xs.length : Int)) := by omega
    by_cases c1 : n ≤ (f.then_.length : Int)
    · rw [show fmtsB (f :: r) n = (false, n) by simp [fmtsB, c1]]
      refine omega_L fn37 (by rfl) ?_
      simp (disch := first | omega | exact Sure.mk (by kernel_rfl)) only [core.down, tab.down, ↓reduceIte, Nat.reduceLeDiff, Nat.reduceEqDiff, Nat.reduceLT, Nat.reduceAdd, Nat.reduceSub, Nat.reduceMul, reduceCtorEq, Nat.reducePow, needs, aop, aBin, intBin, aLoad, List.toList_toArray, avOf, pvOf, allPV, List.map, List.take, List.drop, List.length_cons, List.length_nil, List.length_map, aStore, AV.stor, AV.cells, List.append, aFieldAddr, List.getElem?_cons_zero, List.getElem?_cons_succ, subHeap, AV.refs, AV.ren, AV.rows, if_true, if_false, List.nil_append, List.append_nil, List.cons_append, tupled, unz, aBuiltin, lenTd, aLen, List.getElem?_nil, touched, beq_self_eq_true, List.isEmpty_nil, Option.some.injEq, ge_iff_le, aUn, pure?, PV.cells, List.replicate, List.set_cons_zero, List.set_cons_succ, aConvert, strBin, sliceOf, bytesOf, eq_self, AV.thaw, Blk.thaw, aSlice, aNil, isNilV, aEq, plainEq, fitAll, keyFits, aMax, maxFrom, aPart, aFind, Blk.ren, Blk.refs, keyEq, aLookup, aUpdate, aEntry, aEntryStore, aDelete, List.flatMap_nil, List.flatMap_cons, gt_iff_lt, sp8_0, sp8_2, sp36_0, sp36_2, sp37_0, coreB.down, hc, h4, Fmt.enc, c1]
    · by_cases c2 : n ≤ (f.else_.length : Int)
      · rw [show fmtsB (f :: r) n = (false, n) by simp [fmtsB, c2]]
        refine omega_L fn37 (by rfl) ?_
        simp (disch := first | omega | exact Sure.mk (by kernel_rfl)) only [core.down, tab.down, ↓reduceIte, Nat.reduceLeDiff, Nat.reduceEqDiff, Nat.reduceLT, Nat.reduceAdd, Nat.reduceSub, Nat.reduceMul, reduceCtorEq, Nat.reducePow, needs, aop, aBin, intBin, aLoad, List.toList_toArray, avOf, pvOf, allPV, List.map, List.take, List.drop, List.length_cons, List.length_nil, List.length_map, aStore, AV.stor, AV.cells, List.append, aFieldAddr, List.getElem?_cons_zero, List.getElem?_cons_succ, subHeap, AV.refs, AV.ren, AV.rows, if_true, if_false, List.nil_append, List.append_nil, List.cons_append, tupled, unz, aBuiltin, lenTd, aLen, List.getElem?_nil, touched, beq_self_eq_true, List.isEmpty_nil, Option.some.injEq, ge_iff_le, aUn, pure?, PV.cells, List.replicate, List.set_cons_zero, List.set_cons_succ, aConvert, strBin, sliceOf, bytesOf, eq_self, AV.thaw, Blk.thaw, aSlice, aNil, isNilV, aEq, plainEq, fitAll, keyFits, aMax, maxFrom, aPart, aFind, Blk.ren, Blk.refs, keyEq, aLookup, aUpdate, aEntry, aEntryStore, aDelete, List.flatMap_nil, List.flatMap_cons, gt_iff_lt, sp8_0, sp8_2, sp36_0, sp36_2, sp37_0, coreB.down, hc, h4, Fmt.enc, c1, c2]
      · rw [show fmtsB (f :: r) n = fmtsB r (n - 1 - f.then_.length - f.else_.length) by simp [fmtsB, c1, c2]]
        rw [← fmtsLeft_loop b xs r (i + 1) (n - 1 - f.then_.length - f.else_.length) h2 (by omega) (by omega)]
        refine omega_L fn37 (by rfl) ?_
        simp (disch := first | omega | exact Sure.mk (by kernel_rfl)) only [core.down, tab.down, ↓reduceIte, Nat.reduceLeDiff, Nat.reduceEqDiff, Nat.reduceLT, Nat.reduceAdd, Nat.reduceSub, Nat.reduceMul, reduceCtorEq, Nat.reducePow, needs, aop, aBin, intBin, aLoad, List.toList_toArray, avOf, pvOf, allPV, List.map, List.take, List.drop, List.length_cons, List.length_nil, List.length_map, aStore, AV.stor, AV.cells, List.append, aFieldAddr, List.getElem?_cons_zero, List.getElem?_cons_succ, subHeap, AV.refs, AV.ren, AV.rows, if_true, if_false, List.nil_append, List.append_nil, List.cons_append, tupled, unz, aBuiltin, lenTd, aLen, List.getElem?_nil, touched, beq_self_eq_true, List.isEmpty_nil, Option.some.injEq, ge_iff_le, aUn, pure?, PV.cells, List.replicate, List.set_cons_zero, List.set_cons_succ, aConvert, strBin, sliceOf, bytesOf, eq_self, AV.thaw, Blk.thaw, aSlice, aNil, isNilV, aEq, plainEq, fitAll, keyFits, aMax, maxFrom, aPart, aFind, Blk.ren, Blk.refs, keyEq, aLookup, aUpdate, aEntry, aEntryStore, aDelete, List.flatMap_nil, List.flatMap_cons, gt_iff_lt, sp8_0, sp8_2, sp36_0, sp36_2, sp37_0, coreB.down, hc, h4, Fmt.enc, c1, c2]

def fmtsI (l : List Fmt) (n : Int) : Int := match fmtsB l n with | (true, m) => m | (false, _) => -1

set_option maxRecDepth 100000 in
theorem fmtsLeft_eq (b : Bool) (l : List Fmt) (n : Int) (h1 : -2 ^ 61 ≤ n) (h2 : n ≤ 2 ^ 61) :
    O.call 37 [.pv (slP b 5 (l.map Fmt.enc)), .pv (.int .i64 n)] [] = some (.pv (.int .i64 (fmtsI l n)), []) := by
  have hL := fmtsLeft_loop (b && (l.map Fmt.enc).isEmpty) l l 0 n rfl h1 (by simpa using h2)
  simp only [Int.natCast_zero] at hL
  refine omega_F rfl fn37 (by rfl) (by rfl) rfl ?_
  simp (disch := first | omega | exact Sure.mk (by kernel_rfl)) only [core.down, tab.down, ↓reduceIte, Nat.reduceLeDiff, Nat.reduceEqDiff, Nat.reduceLT, Nat.reduceAdd, Nat.reduceSub, Nat.reduceMul, reduceCtorEq, Nat.reducePow, needs, aop, aBin, intBin, aLoad, List.toList_toArray, avOf, pvOf, allPV, List.map, List.take, List.drop, List.length_cons, List.length_nil, List.length_map, aStore, AV.stor, AV.cells, List.append, aFieldAddr, List.getElem?_cons_zero, List.getElem?_cons_succ, subHeap, AV.refs, AV.ren, AV.rows, if_true, if_false, List.nil_append, List.append_nil, List.cons_append, tupled, unz, aBuiltin, lenTd, aLen, List.getElem?_nil, touched, beq_self_eq_true, List.isEmpty_nil, Option.some.injEq, ge_iff_le, aUn, pure?, PV.cells, List.replicate, List.set_cons_zero, List.set_cons_succ, aConvert, strBin, sliceOf, bytesOf, eq_self, AV.thaw, Blk.thaw, aSlice, aNil, isNilV, aEq, plainEq, fitAll, keyFits, aMax, maxFrom, aPart, aFind, Blk.ren, Blk.refs, keyEq, aLookup, aUpdate, aEntry, aEntryStore, aDelete, List.flatMap_nil, List.flatMap_cons, gt_iff_lt, sp8_0, sp8_2, sp36_0, sp36_2, sp37_0, coreB.down, slP, hL]
  unfold fmtsI
  rcases fmtsB l n with ⟨t, m⟩
  cases t <;> simp (disch := first | omega | exact Sure.mk (by kernel_rfl)) only [core.down, tab.down, ↓reduceIte, Nat.reduceLeDiff, Nat.reduceEqDiff, Nat.reduceLT, Nat.reduceAdd, Nat.reduceSub, Nat.reduceMul, reduceCtorEq, Nat.reducePow, needs, aop, aBin, intBin, aLoad, List.toList_toArray, avOf, pvOf, allPV, List.map, List.take, List.drop, List.length_cons, List.length_nil, List.length_map, aStore, AV.stor, AV.cells, List.append, aFieldAddr, List.getElem?_cons_zero, List.getElem?_cons_succ, subHeap, AV.refs, AV.ren, AV.rows, if_true, if_false, List.nil_append, List.append_nil, List.cons_append, tupled, unz, aBuiltin, lenTd, aLen, List.getElem?_nil, touched, beq_self_eq_true, List.isEmpty_nil, Option.some.injEq, ge_iff_le, aUn, pure?, PV.cells, List.replicate, List.set_cons_zero, List.set_cons_succ, aConvert, strBin, sliceOf, bytesOf, eq_self, AV.thaw, Blk.thaw, aSlice, aNil, isNilV, aEq, plainEq, fitAll, keyFits, aMax, maxFrom, aPart, aFind, Blk.ren, Blk.refs, keyEq, aLookup, aUpdate, aEntry, aEntryStore, aDelete, List.flatMap_nil, List.flatMap_cons, gt_iff_lt, sp8_0, sp8_2, sp36_0, sp36_2, sp37_0, coreB.down]

/-! Regular expressions -/
def rowsB : List (Bytes × Bytes) → Int → Bool × Int
  | [], n => (true, n)
  | r :: l, n => if n ≤ r.1.length ∨ n ≤ r.2.length then (false, n) else rowsB l (n - 1 - r.1.length - r.2.length)

theorem rowsB_size : ∀ (l : List (Bytes × Bytes)) (n : Int), (rowsB l n).1 = true → (rowsB l n).2 = n - rowsSz l
  | [], n, _ => by simp [rowsB, rowsSz]
  | f :: l, n, h => by
    simp only [rowsB] at h ⊢
    split at h
    · cases h
    · rename_i c
      rw [if_neg c, rowsB_size l _ h]
      simp only [rowsSz, rowSz]
      omega

theorem rowsB_le : ∀ (l : List (Bytes × Bytes)) (n : Int), (rowsB l n).2 ≤ n ∧ (0 ≤ n → - n ≤ (rowsB l n).2) ∧ (n < 0 → (rowsB l n).2 = n)
  | [], n => by simp [rowsB]; omega
  | f :: l, n => by
    simp only [rowsB]
    split
    · simp; omega
    · have := rowsB_le l (n - 1 - f.1.length - f.2.length)
      omega


mutual
def rxB : Rx → Int → Int
  | .mk _ c _ _ rows _ _ _ _ kids, n =>
    if n ≤ c.length ∨ n ≤ rows.length ∨ n ≤ kids.length then -1
    else match rowsB rows (n - 1 - c.length) with
      | (false, _) => -1
      | (true, m) => rxKB kids m
def rxKB : List Rx → Int → Int
  | [], n => n
  | k :: r, n => if 0 ≤ n then rxKB r (rxB k n) else n
end

theorem rxB_eq (x : Rx) (n : Int) : rxB x n = if n ≤ x.char.length ∨ n ≤ x.rows.length ∨ n ≤ x.kids.length then -1
    else match rowsB x.rows (n - 1 - x.char.length) with
      | (false, _) => -1
      | (true, m) => rxKB x.kids m := by cases x; rfl

theorem rxKB_neg (r : List Rx) {n : Int} (h : n < 0) : rxKB r n = n := by
  cases r with
  | nil => rfl
  | cons k r => simp only [rxKB]; rw [if_neg (by omega)]

theorem rxKB_range : ∀ (r : List Rx) (n : Int), (∀ k ∈ r, ∀ m, 0 ≤ m → -m - 1 ≤ rxB k m ∧ rxB k m ≤ m) → 0 ≤ n → -n - 1 ≤ rxKB r n ∧ rxKB r n ≤ n
  | [], n, _, h => by simp [rxKB]; omega
  | k :: r, n, hk, h => by
    simp only [rxKB]
    rw [if_pos h]
    have h1 := hk k (by simp) n h
    by_cases h0 : 0 ≤ rxB k n
    · have := rxKB_range r (rxB k n) (fun y hy => hk y (by simp [hy])) h0
      omega
    · rw [rxKB_neg r (by omega)]
      omega

theorem mem_rxSize : ∀ {l : List Rx} {k : Rx}, k ∈ l → k.size ≤ Rx.sizeL l
  | y :: r, k, h => by
    simp only [Rx.sizeL]
    rcases List.mem_cons.1 h with rfl | h
    · omega
    · have := mem_rxSize h; omega

theorem rxB_range : ∀ (N : Nat) (x : Rx), x.size ≤ N → ∀ n : Int, 0 ≤ n → -n - 1 ≤ rxB x n ∧ rxB x n ≤ n := by
  intro N
  induction N with
  | zero => intro x h; have := x.size_pos; omega
  | succ N ih =>
    intro x h n hn
    rw [rxB_eq]
    split
    · omega
    · have h1 := rowsB_le x.rows (n - 1 - x.char.length)
      split
      · omega
      · rename_i m hm
        rw [hm] at h1
        simp only at h1
        by_cases h0 : 0 ≤ m
        · have := rxKB_range x.kids m (fun k hk => ih k (by have := mem_rxSize hk; rw [x.size_eq] at h; omega)) h0
          omega
        · rw [rxKB_neg _ (by omega)]
          omega

theorem rxB_rng (x : Rx) {n : Int} (h : 0 ≤ n) : -n - 1 ≤ rxB x n ∧ rxB x n ≤ n := rxB_range x.size x (Nat.le_refl _) n h

theorem rxKB_size : ∀ (r : List Rx) (n : Int), (∀ k ∈ r, ∀ m, 0 ≤ rxB k m → rxB k m = m - k.size) → 0 ≤ rxKB r n → rxKB r n = n - Rx.sizeL r
  | [], n, _, _ => by simp [rxKB, Rx.sizeL]
  | k :: r, n, hk, h => by
    simp only [rxKB] at h ⊢
    by_cases h0 : 0 ≤ n
    · rw [if_pos h0] at h ⊢
      have h1 := rxKB_size r _ (fun y hy => hk y (by simp [hy])) h
      have h2 : 0 ≤ rxB k n := by
        by_cases hb : 0 ≤ rxB k n
        · exact hb
        · rw [rxKB_neg r (by omega)] at h; omega
      rw [h1, hk k (by simp) n h2]
      simp only [Rx.sizeL]
      omega
    · rw [if_neg h0] at h
      omega

theorem rxB_size : ∀ (N : Nat) (x : Rx), x.size ≤ N → ∀ n : Int, 0 ≤ rxB x n → rxB x n = n - x.size := by
  intro N
  induction N with
  | zero => intro x h; have := x.size_pos; omega
  | succ N ih =>
    intro x h n hn
    rw [rxB_eq] at hn ⊢
    split at hn
    · omega
    · rename_i c
      rw [if_neg c]
      split at hn
      · omega
      · rename_i m hm
        have h1 := rowsB_size x.rows (n - 1 - x.char.length) (by rw [hm])
        rw [hm] at h1
        simp only at h1
        rw [rxKB_size x.kids m (fun k hk => ih k (by have := mem_rxSize hk; rw [x.size_eq] at h; omega)) hn, x.size_eq]
        omega

set_option maxRecDepth 100000 in
theorem rows_loop (x : Rx) : ∀ (r : List (Bytes × Bytes)) (i : Nat) (n : Int), x.rows.drop i = r → -2 ^ 62 ≤ n → n + i ≤ 2 ^ 61 →
      O.loop 36 0 ⟨[(1, .pv (.int .i64 n)), (2, .ptr 0 0), (5, .pv (.int .i64 i))], [(0, .box (x.enc.map .pv))], 1⟩ =
        match rowsB r n with
        | (true, m) => some (.normal, ⟨[(1, .pv (.int .i64 m)), (2, .ptr 0 0), (4, .undef)], [(0, .box (x.enc.map .pv))], 1⟩)
        | (false, m) => some (.ret, ⟨[(1, .pv (.int .i64 m)), (2, .ptr 0 0), (4, .pv (.int .i64 (-1)))], [(0, .box (x.enc.map .pv))], 1⟩)
  | [], i, n, h, h1, h2 => by
    have hi := drop_none h
    refine omega_L fn36 (by rfl) ?_
    simp (disch := first | omega | exact Sure.mk (by kernel_rfl)) only [core.down, tab.down, ↓reduceIte, Nat.reduceLeDiff, Nat.reduceEqDiff, Nat.reduceLT, Nat.reduceAdd, Nat.reduceSub, Nat.reduceMul, reduceCtorEq, Nat.reducePow, needs, aop, aBin, intBin, aLoad, List.toList_toArray, avOf, pvOf, allPV, List.map, List.take, List.drop, List.length_cons, List.length_nil, List.length_map, aStore, AV.stor, AV.cells, List.append, aFieldAddr, List.getElem?_cons_zero, List.getElem?_cons_succ, subHeap, AV.refs, AV.ren, AV.rows, if_true, if_false, List.nil_append, List.append_nil, List.cons_append, tupled, unz, aBuiltin, lenTd, aLen, List.getElem?_nil, touched, beq_self_eq_true, List.isEmpty_nil, Option.some.injEq, ge_iff_le, aUn, pure?, PV.cells, List.replicate, List.set_cons_zero, List.set_cons_succ, aConvert, strBin, sliceOf, bytesOf, eq_self, AV.thaw, Blk.thaw, aSlice, aNil, isNilV, aEq, plainEq, fitAll, keyFits, aMax, maxFrom, aPart, aFind, Blk.ren, Blk.refs, keyEq, aLookup, aUpdate, aEntry, aEntryStore, aDelete, List.flatMap_nil, List.flatMap_cons, gt_iff_lt, sp8_0, sp8_2, sp36_0, sp36_2, sp37_0, coreB.down, Rx.enc_eq, slP, rowsB]
  | f :: r, i, n, h, hn1, hn2 => by
    obtain ⟨h1, h2, h3⟩ := drop_cons h
    have h4 := map_at (f := rowE) h1
    by_cases c1 : n ≤ (f.1.length : Int)
    · rw [show rowsB (f :: r) n = (false, n) by simp [rowsB, c1]]
      refine omega_L fn36 (by rfl) ?_
      simp (disch := first | omega | exact Sure.mk (by kernel_rfl)) only [core.down, tab.down, ↓reduceIte, Nat.reduceLeDiff, Nat.reduceEqDiff, Nat.reduceLT, Nat.reduceAdd, Nat.reduceSub, Nat.reduceMul, reduceCtorEq, Nat.reducePow, needs, aop, aBin, intBin, aLoad, List.toList_toArray, avOf, pvOf, allPV, List.map, List.take, List.drop, List.length_cons, List.length_nil, List.length_map, aStore, AV.stor, AV.cells, List.append, aFieldAddr, List.getElem?_cons_zero, List.getElem?_cons_succ, subHeap, AV.refs, AV.ren, AV.rows, if_true, if_false, List.nil_append, List.append_nil, List.cons_append, tupled, unz, aBuiltin, lenTd, aLen, List.getElem?_nil, touched, beq_self_eq_true, List.isEmpty_nil, Option.some.injEq, ge_iff_le, aUn, pure?, PV.cells, List.replicate, List.set_cons_zero, List.set_cons_succ, aConvert, strBin, sliceOf, bytesOf, eq_self, AV.thaw, Blk.thaw, aSlice, aNil, isNilV, aEq, plainEq, fitAll, keyFits, aMax, maxFrom, aPart, aFind, Blk.ren, Blk.refs, keyEq, aLookup, aUpdate, aEntry, aEntryStore, aDelete, List.flatMap_nil, List.flatMap_cons, gt_iff_lt, sp8_0, sp8_2, sp36_0, sp36_2, sp37_0, coreB.down, Rx.enc_eq, slP, h4, rowE]
    · by_cases c2 : n ≤ (f.2.length : Int)
      · rw [show rowsB (f :: r) n = (false, n) by simp [rowsB, c2]]
        refine omega_L fn36 (by rfl) ?_
        simp (disch := first | omega | exact Sure.mk (by kernel_rfl)) only [core.down, tab.down, ↓reduceIte, Nat.reduceLeDiff, Nat.reduceEqDiff, Nat.reduceLT, Nat.reduceAdd, Nat.reduceSub, Nat.reduceMul, reduceCtorEq, Nat.reducePow, needs, aop, aBin, intBin, aLoad, List.toList_toArray, avOf, pvOf, allPV, List.map, List.take, List.drop, List.length_cons, List.length_nil, List.length_map, aStore, AV.stor, AV.cells, List.append, aFieldAddr, List.getElem?_cons_zero, List.getElem?_cons_succ, subHeap, AV.refs, AV.ren, AV.rows, if_true, if_false, List.nil_append, List.append_nil, List.cons_append, tupled, unz, aBuiltin, lenTd, aLen, List.getElem?_nil, touched, beq_self_eq_true, List.isEmpty_nil, Option.some.injEq, ge_iff_le, aUn, pure?, PV.cells, List.replicate, List.set_cons_zero, List.set_cons_succ, aConvert, strBin, sliceOf, bytesOf, eq_self, AV.thaw, Blk.thaw, aSlice, aNil, isNilV, aEq, plainEq, fitAll, keyFits, aMax, maxFrom, aPart, aFind, Blk.ren, Blk.refs, keyEq, aLookup, aUpdate, aEntry, aEntryStore, aDelete, List.flatMap_nil, List.flatMap_cons, gt_iff_lt, sp8_0, sp8_2, sp36_0, sp36_2, sp37_0, coreB.down, Rx.enc_eq, slP, h4, rowE]
      · rw [show rowsB (f :: r) n = rowsB r (n - 1 - f.1.length - f.2.length) by simp [rowsB, c1, c2]]
        rw [← rows_loop x r (i + 1) (n - 1 - f.1.length - f.2.length) h2 (by omega) (by omega)]
        refine omega_L fn36 (by rfl) ?_
        simp (disch := first | omega | exact Sure.mk (by kernel_rfl)) only [core.down, tab.down, ↓reduceIte, Nat.reduceLeDiff, Nat.reduceEqDiff, Nat.reduceLT, Nat.reduceAdd, Nat.reduceSub, Nat.reduceMul, reduceCtorEq, Nat.reducePow, needs, aop, aBin, intBin, aLoad, List.toList_toArray, avOf, pvOf, allPV, List.map, List.take, List.drop, List.length_cons, List.length_nil, List.length_map, aStore, AV.stor, AV.cells, List.append, aFieldAddr, List.getElem?_cons_zero, List.getElem?_cons_succ, subHeap, AV.refs, AV.ren, AV.rows, if_true, if_false, List.nil_append, List.append_nil, List.cons_append, tupled, unz, aBuiltin, lenTd, aLen, List.getElem?_nil, touched, beq_self_eq_true, List.isEmpty_nil, Option.some.injEq, ge_iff_le, aUn, pure?, PV.cells, List.replicate, List.set_cons_zero, List.set_cons_succ, aConvert, strBin, sliceOf, bytesOf, eq_self, AV.thaw, Blk.thaw, aSlice, aNil, isNilV, aEq, plainEq, fitAll, keyFits, aMax, maxFrom, aPart, aFind, Blk.ren, Blk.refs, keyEq, aLookup, aUpdate, aEntry, aEntryStore, aDelete, List.flatMap_nil, List.flatMap_cons, gt_iff_lt, sp8_0, sp8_2, sp36_0, sp36_2, sp37_0, coreB.down, Rx.enc_eq, slP, h4, rowE]

set_option maxRecDepth 100000 in
theorem rxKids_loop (x : Rx) (hk : ∀ k ∈ x.kids, ∀ n : Int, 0 ≤ n → n ≤ 2 ^ 60 → O.call 36 [.pv (.agg k.enc), .pv (.int .i64 n)] [] = some (.pv (.int .i64 (rxB k n)), [])) (hl : x.kids.length ≤ 2 ^ 60) :
    ∀ (r : List Rx) (i : Nat) (n : Int), x.kids.drop i = r → n ≤ 2 ^ 60 →
      O.loop 36 2 ⟨[(1, .pv (.int .i64 n)), (2, .ptr 0 0), (6, .pv (.int .i64 i))], [(0, .box (x.enc.map .pv))], 1⟩ =
        some (.normal, ⟨[(1, .pv (.int .i64 (rxKB r n)))], [(0, .box (x.enc.map .pv))], 1⟩)
  | [], i, n, h, h1 => by
    have hi := drop_none h
    refine omega_L fn36 (by rfl) ?_
    simp (disch := first | omega | exact Sure.mk (by kernel_rfl)) only [core.down, tab.down, ↓reduceIte, Nat.reduceLeDiff, Nat.reduceEqDiff, Nat.reduceLT, Nat.reduceAdd, Nat.reduceSub, Nat.reduceMul, reduceCtorEq, Nat.reducePow, needs, aop, aBin, intBin, aLoad, List.toList_toArray, avOf, pvOf, allPV, List.map, List.take, List.drop, List.length_cons, List.length_nil, List.length_map, aStore, AV.stor, AV.cells, List.append, aFieldAddr, List.getElem?_cons_zero, List.getElem?_cons_succ, subHeap, AV.refs, AV.ren, AV.rows, if_true, if_false, List.nil_append, List.append_nil, List.cons_append, tupled, unz, aBuiltin, lenTd, aLen, List.getElem?_nil, touched, beq_self_eq_true, List.isEmpty_nil, Option.some.injEq, ge_iff_le, aUn, pure?, PV.cells, List.replicate, List.set_cons_zero, List.set_cons_succ, aConvert, strBin, sliceOf, bytesOf, eq_self, AV.thaw, Blk.thaw, aSlice, aNil, isNilV, aEq, plainEq, fitAll, keyFits, aMax, maxFrom, aPart, aFind, Blk.ren, Blk.refs, keyEq, aLookup, aUpdate, aEntry, aEntryStore, aDelete, List.flatMap_nil, List.flatMap_cons, gt_iff_lt, sp8_0, sp8_2, sp36_0, sp36_2, sp37_0, coreB.down, Rx.enc_eq, slP, rxKB]
  | k :: r, i, n, h, hn => by
    obtain ⟨h1, h2, h3⟩ := drop_cons h
    have h4 := map_at (f := Rx.enc) h1
    by_cases c1 : 0 ≤ n
    · have hc := hk k (List.mem_of_getElem? h1) n c1 hn
      have hr := rxB_rng k c1
      rw [show rxKB (k :: r) n = rxKB r (rxB k n) by simp [rxKB, c1]]
      rw [← rxKids_loop x hk hl r (i + 1) (rxB k n) h2 (by omega)]
      refine omega_L fn36 (by rfl) ?_
      simp only [Rx.enc_eq, slP] at h4 hc
      simp (disch := first | omega | exact Sure.mk (by kernel_rfl)) only [core.down, tab.down, ↓reduceIte, Nat.reduceLeDiff, Nat.reduceEqDiff, Nat.reduceLT, Nat.reduceAdd, Nat.reduceSub, Nat.reduceMul, reduceCtorEq, Nat.reducePow, needs, aop, aBin, intBin, aLoad, List.toList_toArray, avOf, pvOf, allPV, List.map, List.take, List.drop, List.length_cons, List.length_nil, List.length_map, aStore, AV.stor, AV.cells, List.append, aFieldAddr, List.getElem?_cons_zero, List.getElem?_cons_succ, subHeap, AV.refs, AV.ren, AV.rows, if_true, if_false, List.nil_append, List.append_nil, List.cons_append, tupled, unz, aBuiltin, lenTd, aLen, List.getElem?_nil, touched, beq_self_eq_true, List.isEmpty_nil, Option.some.injEq, ge_iff_le, aUn, pure?, PV.cells, List.replicate, List.set_cons_zero, List.set_cons_succ, aConvert, strBin, sliceOf, bytesOf, eq_self, AV.thaw, Blk.thaw, aSlice, aNil, isNilV, aEq, plainEq, fitAll, keyFits, aMax, maxFrom, aPart, aFind, Blk.ren, Blk.refs, keyEq, aLookup, aUpdate, aEntry, aEntryStore, aDelete, List.flatMap_nil, List.flatMap_cons, gt_iff_lt, sp8_0, sp8_2, sp36_0, sp36_2, sp37_0, coreB.down, Rx.enc_eq, slP, h4, hc]
    · rw [show rxKB (k :: r) n = n by simp [rxKB, c1]]
      refine omega_L fn36 (by rfl) ?_
      simp (disch := first | omega | exact Sure.mk (by kernel_rfl)) only [core.down, tab.down, ↓reduceIte, Nat.reduceLeDiff, Nat.reduceEqDiff, Nat.reduceLT, Nat.reduceAdd, Nat.reduceSub, Nat.reduceMul, reduceCtorEq, Nat.reducePow, needs, aop, aBin, intBin, aLoad, List.toList_toArray, avOf, pvOf, allPV, List.map, List.take, List.drop, List.length_cons, List.length_nil, List.length_map, aStore, AV.stor, AV.cells, List.append, aFieldAddr, List.getElem?_cons_zero, List.getElem?_cons_succ, subHeap, AV.refs, AV.ren, AV.rows, if_true, if_false, List.nil_append, List.append_nil, List.cons_append, tupled, unz, aBuiltin, lenTd, aLen, List.getElem?_nil, touched, beq_self_eq_true, List.isEmpty_nil, Option.some.injEq, ge_iff_le, aUn, pure?, PV.cells, List.replicate, List.set_cons_zero, List.set_cons_succ, aConvert, strBin, sliceOf, bytesOf, eq_self, AV.thaw, Blk.thaw, aSlice, aNil, isNilV, aEq, plainEq, fitAll, keyFits, aMax, maxFrom, aPart, aFind, Blk.ren, Blk.refs, keyEq, aLookup, aUpdate, aEntry, aEntryStore, aDelete, List.flatMap_nil, List.flatMap_cons, gt_iff_lt, sp8_0, sp8_2, sp36_0, sp36_2, sp37_0, coreB.down, Rx.enc_eq, slP]

set_option maxRecDepth 100000 in
theorem rx_eq : ∀ (N : Nat) (x : Rx), x.size ≤ N → ∀ n : Int, 0 ≤ n → n ≤ 2 ^ 60 → O.call 36 [.pv (.agg x.enc), .pv (.int .i64 n)] [] = some (.pv (.int .i64 (rxB x n)), []) := by
  intro N
  induction N with
  | zero => intro x h; have := x.size_pos; omega
  | succ N ih =>
    intro x h n hn1 hn2
    refine omega_F rfl fn36 (by rfl) (by rfl) rfl ?_
    by_cases c1 : n ≤ (x.char.length : Int)
    · rw [show rxB x n = -1 by rw [rxB_eq]; simp [c1]]
      simp (disch := first | omega | exact Sure.mk (by kernel_rfl)) only [core.down, tab.down, ↓reduceIte, Nat.reduceLeDiff, Nat.reduceEqDiff, Nat.reduceLT, Nat.reduceAdd, Nat.reduceSub, Nat.reduceMul, reduceCtorEq, Nat.reducePow, needs, aop, aBin, intBin, aLoad, List.toList_toArray, avOf, pvOf, allPV, List.map, List.take, List.drop, List.length_cons, List.length_nil, List.length_map, aStore, AV.stor, AV.cells, List.append, aFieldAddr, List.getElem?_cons_zero, List.getElem?_cons_succ, subHeap, AV.refs, AV.ren, AV.rows, if_true, if_false, List.nil_append, List.append_nil, List.cons_append, tupled, unz, aBuiltin, lenTd, aLen, List.getElem?_nil, touched, beq_self_eq_true, List.isEmpty_nil, Option.some.injEq, ge_iff_le, aUn, pure?, PV.cells, List.replicate, List.set_cons_zero, List.set_cons_succ, aConvert, strBin, sliceOf, bytesOf, eq_self, AV.thaw, Blk.thaw, aSlice, aNil, isNilV, aEq, plainEq, fitAll, keyFits, aMax, maxFrom, aPart, aFind, Blk.ren, Blk.refs, keyEq, aLookup, aUpdate, aEntry, aEntryStore, aDelete, List.flatMap_nil, List.flatMap_cons, gt_iff_lt, sp8_0, sp8_2, sp36_0, sp36_2, sp37_0, coreB.down, Rx.enc_eq, slP]
    by_cases c2 : n ≤ (x.rows.length : Int)
    · rw [show rxB x n = -1 by rw [rxB_eq]; simp [c2]]
      simp (disch := first | omega | exact Sure.mk (by kernel_rfl)) only [core.down, tab.down, ↓reduceIte, Nat.reduceLeDiff, Nat.reduceEqDiff, Nat.reduceLT, Nat.reduceAdd, Nat.reduceSub, Nat.reduceMul, reduceCtorEq, Nat.reducePow, needs, aop, aBin, intBin, aLoad, List.toList_toArray, avOf, pvOf, allPV, List.map, List.take, List.drop, List.length_cons, List.length_nil, List.length_map, aStore, AV.stor, AV.cells, List.append, aFieldAddr, List.getElem?_cons_zero, List.getElem?_cons_succ, subHeap, AV.refs, AV.ren, AV.rows, if_true, if_false, List.nil_append, List.append_nil, List.cons_append, tupled, unz, aBuiltin, lenTd, aLen, List.getElem?_nil, touched, beq_self_eq_true, List.isEmpty_nil, Option.some.injEq, ge_iff_le, aUn, pure?, PV.cells, List.replicate, List.set_cons_zero, List.set_cons_succ, aConvert, strBin, sliceOf, bytesOf, eq_self, AV.thaw, Blk.thaw, aSlice, aNil, isNilV, aEq, plainEq, fitAll, keyFits, aMax, maxFrom, aPart, aFind, Blk.ren, Blk.refs, keyEq, aLookup, aUpdate, aEntry, aEntryStore, aDelete, List.flatMap_nil, List.flatMap_cons, gt_iff_lt, sp8_0, sp8_2, sp36_0, sp36_2, sp37_0, coreB.down, Rx.enc_eq, slP]
    by_cases c3 : n ≤ (x.kids.length : Int)
    · rw [show rxB x n = -1 by rw [rxB_eq]; simp [c3]]
      simp (disch := first | omega | exact Sure.mk (by kernel_rfl)) only [core.down, tab.down, ↓reduceIte, Nat.reduceLeDiff, Nat.reduceEqDiff, Nat.reduceLT, Nat.reduceAdd, Nat.reduceSub, Nat.reduceMul, reduceCtorEq, Nat.reducePow, needs, aop, aBin, intBin, aLoad, List.toList_toArray, avOf, pvOf, allPV, List.map, List.take, List.drop, List.length_cons, List.length_nil, List.length_map, aStore, AV.stor, AV.cells, List.append, aFieldAddr, List.getElem?_cons_zero, List.getElem?_cons_succ, subHeap, AV.refs, AV.ren, AV.rows, if_true, if_false, List.nil_append, List.append_nil, List.cons_append, tupled, unz, aBuiltin, lenTd, aLen, List.getElem?_nil, touched, beq_self_eq_true, List.isEmpty_nil, Option.some.injEq, ge_iff_le, aUn, pure?, PV.cells, List.replicate, List.set_cons_zero, List.set_cons_succ, aConvert, strBin, sliceOf, bytesOf, eq_self, AV.thaw, Blk.thaw, aSlice, aNil, isNilV, aEq, plainEq, fitAll, keyFits, aMax, maxFrom, aPart, aFind, Blk.ren, Blk.refs, keyEq, aLookup, aUpdate, aEntry, aEntryStore, aDelete, List.flatMap_nil, List.flatMap_cons, gt_iff_lt, sp8_0, sp8_2, sp36_0, sp36_2, sp37_0, coreB.down, Rx.enc_eq, slP]
    have e : rxB x n = match rowsB x.rows (n - 1 - x.char.length) with
      | (false, _) => -1
      | (true, m) => rxKB x.kids m := by rw [rxB_eq, if_neg (by omega)]
    have hr := rowsB_le x.rows (n - 1 - x.char.length)
    have hL := rows_loop x x.rows 0 (n - 1 - x.char.length) rfl (by omega) (by omega)
    rw [e]
    cases hm : rowsB x.rows (n - 1 - x.char.length) with
    | mk t m =>
      rw [hm] at hr hL
      simp only at hr
      cases t with
      | false =>
        simp only [Int.natCast_zero, Rx.enc_eq, slP, List.map_cons, List.map_nil] at hL
        simp (disch := first | omega | exact Sure.mk (by kernel_rfl)) only [core.down, tab.down, ↓reduceIte, Nat.reduceLeDiff, Nat.reduceEqDiff, Nat.reduceLT, Nat.reduceAdd, Nat.reduceSub, Nat.reduceMul, reduceCtorEq, Nat.reducePow, needs, aop, aBin, intBin, aLoad, List.toList_toArray, avOf, pvOf, allPV, List.map, List.take, List.drop, List.length_cons, List.length_nil, List.length_map, aStore, AV.stor, AV.cells, List.append, aFieldAddr, List.getElem?_cons_zero, List.getElem?_cons_succ, subHeap, AV.refs, AV.ren, AV.rows, if_true, if_false, List.nil_append, List.append_nil, List.cons_append, tupled, unz, aBuiltin, lenTd, aLen, List.getElem?_nil, touched, beq_self_eq_true, List.isEmpty_nil, Option.some.injEq, ge_iff_le, aUn, pure?, PV.cells, List.replicate, List.set_cons_zero, List.set_cons_succ, aConvert, strBin, sliceOf, bytesOf, eq_self, AV.thaw, Blk.thaw, aSlice, aNil, isNilV, aEq, plainEq, fitAll, keyFits, aMax, maxFrom, aPart, aFind, Blk.ren, Blk.refs, keyEq, aLookup, aUpdate, aEntry, aEntryStore, aDelete, List.flatMap_nil, List.flatMap_cons, gt_iff_lt, sp8_0, sp8_2, sp36_0, sp36_2, sp37_0, coreB.down, Rx.enc_eq, slP, hL]
      | true =>
        have hK := rxKids_loop x (fun k hk n h1 h2 => ih k (by have := mem_rxSize hk; rw [x.size_eq] at h; omega) n h1 h2) (by omega) x.kids 0 m rfl (by omega)
        simp only [Int.natCast_zero, Rx.enc_eq, slP, List.map_cons, List.map_nil] at hL hK
        simp (disch := first | omega | exact Sure.mk (by kernel_rfl)) only [core.down, tab.down, ↓reduceIte, Nat.reduceLeDiff, Nat.reduceEqDiff, Nat.reduceLT, Nat.reduceAdd, Nat.reduceSub, Nat.reduceMul, reduceCtorEq, Nat.reducePow, needs, aop, aBin, intBin, aLoad, List.toList_toArray, avOf, pvOf, allPV, List.map, List.take, List.drop, List.length_cons, List.length_nil, List.length_map, aStore, AV.stor, AV.cells, List.append, aFieldAddr, List.getElem?_cons_zero, List.getElem?_cons_succ, subHeap, AV.refs, AV.ren, AV.rows, if_true, if_false, List.nil_append, List.append_nil, List.cons_append, tupled, unz, aBuiltin, lenTd, aLen, List.getElem?_nil, touched, beq_self_eq_true, List.isEmpty_nil, Option.some.injEq, ge_iff_le, aUn, pure?, PV.cells, List.replicate, List.set_cons_zero, List.set_cons_succ, aConvert, strBin, sliceOf, bytesOf, eq_self, AV.thaw, Blk.thaw, aSlice, aNil, isNilV, aEq, plainEq, fitAll, keyFits, aMax, maxFrom, aPart, aFind, Blk.ren, Blk.refs, keyEq, aLookup, aUpdate, aEntry, aEntryStore, aDelete, List.flatMap_nil, List.flatMap_cons, gt_iff_lt, sp8_0, sp8_2, sp36_0, sp36_2, sp37_0, coreB.down, Rx.enc_eq, slP, hL, hK]


theorem rx_call (x : Rx) {n : Int} (h1 : 0 ≤ n) (h2 : n ≤ 2 ^ 60) : O.call 36 [.pv (.agg x.enc), .pv (.int .i64 n)] [] = some (.pv (.int .i64 (rxB x n)), []) := rx_eq x.size x (Nat.le_refl _) n h1 h2

/-! Transforms -/
def formB (f : Gm.Form) (n : Int) : Int := if rxB f.rx n < 0 then rxB f.rx n else fmtsI f.fmts (rxB f.rx n)

theorem fmtsB_le : ∀ (l : List Fmt) (n : Int), (fmtsB l n).2 ≤ n ∧ (0 ≤ n → - n ≤ (fmtsB l n).2)
  | [], n => by simp [fmtsB]; omega
  | f :: l, n => by
    simp only [fmtsB]
    split
    · simp; omega
    · have := fmtsB_le l (n - 1 - f.then_.length - f.else_.length)
      by_cases h : 0 ≤ n - 1 - f.then_.length - f.else_.length
      · omega
      · cases l with
        | nil => simp [fmtsB] at this ⊢; omega
        | cons g l =>
          have e : fmtsB (g :: l) (n - 1 - f.then_.length - f.else_.length) = (false, n - 1 - f.then_.length - f.else_.length) := by
            simp only [fmtsB]
            rw [if_pos (by omega)]
          rw [e]
          simp
          omega

theorem formB_rng (f : Gm.Form) {n : Int} (h : 0 ≤ n) : -n - 1 ≤ formB f n ∧ formB f n ≤ n := by
  have h1 := rxB_rng f.rx h
  unfold formB
  split
  · omega
  · have h2 := fmtsB_le f.fmts (rxB f.rx n)
    unfold fmtsI
    split
    · rename_i m hm
      rw [hm] at h2
      simp only at h2
      omega
    · omega

theorem formB_size (f : Gm.Form) (n : Int) (h : 0 ≤ formB f n) : formB f n = n - f.size := by
  unfold formB at h ⊢
  split at h
  · omega
  · rename_i c
    rw [if_neg c]
    unfold fmtsI at h ⊢
    split at h
    · rename_i m hm
      have := fmtsB_size f.fmts (rxB f.rx n) (by rw [hm])
      rw [hm] at this
      simp only at this
      rw [this, rxB_size f.rx.size f.rx (Nat.le_refl _) n (by omega)]
      simp only [Gm.Form.size]
      omega
    · omega

set_option maxRecDepth 100000 in
theorem form_call (f : Gm.Form) {n : Int} (h1 : 0 ≤ n) (h2 : n ≤ 2 ^ 60) : O.call 22 [.pv (.agg f.enc), .pv (.int .i64 n)] [] = some (.pv (.int .i64 (formB f n)), []) := by
  have hr := rx_call f.rx h1 h2
  have hg := rxB_rng f.rx h1
  simp only [Rx.enc_eq, slP] at hr
  refine omega_F rfl fn22 (by rfl) (by rfl) rfl ?_
  unfold formB
  by_cases c : rxB f.rx n < 0
  · rw [if_pos c]
    simp (disch := first | omega | exact Sure.mk (by kernel_rfl)) only [core.down, tab.down, ↓reduceIte, Nat.reduceLeDiff, Nat.reduceEqDiff, Nat.reduceLT, Nat.reduceAdd, Nat.reduceSub, Nat.reduceMul, reduceCtorEq, Nat.reducePow, needs, aop, aBin, intBin, aLoad, List.toList_toArray, avOf, pvOf, allPV, List.map, List.take, List.drop, List.length_cons, List.length_nil, List.length_map, aStore, AV.stor, AV.cells, List.append, aFieldAddr, List.getElem?_cons_zero, List.getElem?_cons_succ, subHeap, AV.refs, AV.ren, AV.rows, if_true, if_false, List.nil_append, List.append_nil, List.cons_append, tupled, unz, aBuiltin, lenTd, aLen, List.getElem?_nil, touched, beq_self_eq_true, List.isEmpty_nil, Option.some.injEq, ge_iff_le, aUn, pure?, PV.cells, List.replicate, List.set_cons_zero, List.set_cons_succ, aConvert, strBin, sliceOf, bytesOf, eq_self, AV.thaw, Blk.thaw, aSlice, aNil, isNilV, aEq, plainEq, fitAll, keyFits, aMax, maxFrom, aPart, aFind, Blk.ren, Blk.refs, keyEq, aLookup, aUpdate, aEntry, aEntryStore, aDelete, List.flatMap_nil, List.flatMap_cons, gt_iff_lt, sp8_0, sp8_2, sp36_0, sp36_2, sp37_0, coreB.down, Gm.Form.enc_eq, slP, hr]
  · rw [if_neg c]
    have hf := fmtsLeft_eq f.fn f.fmts (rxB f.rx n) (by omega) (by omega)
    simp only [slP] at hf
    simp (disch := first | omega | exact Sure.mk (by kernel_rfl)) only [core.down, tab.down, ↓reduceIte, Nat.reduceLeDiff, Nat.reduceEqDiff, Nat.reduceLT, Nat.reduceAdd, Nat.reduceSub, Nat.reduceMul, reduceCtorEq, Nat.reducePow, needs, aop, aBin, intBin, aLoad, List.toList_toArray, avOf, pvOf, allPV, List.map, List.take, List.drop, List.length_cons, List.length_nil, List.length_map, aStore, AV.stor, AV.cells, List.append, aFieldAddr, List.getElem?_cons_zero, List.getElem?_cons_succ, subHeap, AV.refs, AV.ren, AV.rows, if_true, if_false, List.nil_append, List.append_nil, List.cons_append, tupled, unz, aBuiltin, lenTd, aLen, List.getElem?_nil, touched, beq_self_eq_true, List.isEmpty_nil, Option.some.injEq, ge_iff_le, aUn, pure?, PV.cells, List.replicate, List.set_cons_zero, List.set_cons_succ, aConvert, strBin, sliceOf, bytesOf, eq_self, AV.thaw, Blk.thaw, aSlice, aNil, isNilV, aEq, plainEq, fitAll, keyFits, aMax, maxFrom, aPart, aFind, Blk.ren, Blk.refs, keyEq, aLookup, aUpdate, aEntry, aEntryStore, aDelete, List.flatMap_nil, List.flatMap_cons, gt_iff_lt, sp8_0, sp8_2, sp36_0, sp36_2, sp37_0, coreB.down, Gm.Form.enc_eq, slP, hr, hf]

/-! Snippets -/
def optsB : List Bytes → Int → Bool × Int
  | [], n => (true, n)
  | s :: l, n => if n ≤ s.length then (false, n) else optsB l (n - 1 - s.length)

theorem optsB_size : ∀ (l : List Bytes) (n : Int), (optsB l n).1 = true → (optsB l n).2 = n - optsSz l
  | [], n, _ => by simp [optsB, optsSz]
  | f :: l, n, h => by
    simp only [optsB] at h ⊢
    split at h
    · cases h
    · rename_i c
      rw [if_neg c, optsB_size l _ h]
      simp only [optsSz]
      omega

theorem optsB_le : ∀ (l : List Bytes) (n : Int), (optsB l n).2 ≤ n ∧ (0 ≤ n → 0 ≤ (optsB l n).2) ∧ (n < 0 → (optsB l n).2 = n)
  | [], n => by simp [optsB]
  | f :: l, n => by
    simp only [optsB]
    split
    · simp
    · have := optsB_le l (n - 1 - f.length)
      omega

mutual
def snipP : Snip → Int → Bool × Int
  | .mk _ t _ _ _ f _ opts _ kids, n =>
    if n ≤ t.length ∨ n ≤ opts.length then (false, n)
    else match optsB opts (formB f (n - 1 - t.length)) with
      | (false, m) => (false, m)
      | (true, m) => (true, if 0 ≤ m then (if (snipsP kids m).1 then (snipsP kids m).2 else -1) else m)
def snipsP : List Snip → Int → Bool × Int
  | [], n => (true, n)
  | x :: r, n => if 0 ≤ n then (match snipP x n with
      | (false, m) => (false, m)
      | (true, m) => snipsP r m) else (true, n)
end
def snipsB (l : List Snip) (n : Int) : Int := if (snipsP l n).1 then (snipsP l n).2 else -1

theorem snipP_eq (x : Snip) (n : Int) : snipP x n = if n ≤ x.text.length ∨ n ≤ x.opts.length then (false, n)
    else match optsB x.opts (formB x.form (n - 1 - x.text.length)) with
      | (false, m) => (false, m)
      | (true, m) => (true, if 0 ≤ m then snipsB x.kids m else m) := by cases x; rfl

theorem snipsP_neg (l : List Snip) {n : Int} (h : n < 0) : snipsP l n = (true, n) := by
  cases l with
  | nil => rfl
  | cons x r => simp only [snipsP]; rw [if_neg (by omega)]


theorem mem_snSize : ∀ {l : List Snip} {k : Snip}, k ∈ l → k.size ≤ Snip.sizeL l
  | y :: r, k, h => by
    simp only [Snip.sizeL]
    rcases List.mem_cons.1 h with rfl | h
    · omega
    · have := mem_snSize h; omega

theorem kids_less {l : List Snip} {k : Snip} (h : k ∈ l) : Snip.sizeL k.kids < Snip.sizeL l := by
  have := mem_snSize h
  rw [k.size_eq] at this
  omega

/-- How far a list takes the measure down. -/
theorem snips_rng : ∀ (N : Nat) (l : List Snip), Snip.sizeL l ≤ N → ∀ n : Int, 0 ≤ n → -n - 1 ≤ (snipsP l n).2 ∧ (snipsP l n).2 ≤ n := by
  intro N
  induction N with
  | zero =>
    intro l h n hn
    cases l with
    | nil => simp [snipsP]; omega
    | cons x r => simp only [Snip.sizeL] at h; have := x.size_pos; omega
  | succ N ih =>
    intro l h n hn
    cases l with
    | nil => simp [snipsP]; omega
    | cons x r =>
      simp only [Snip.sizeL] at h
      simp only [snipsP]
      rw [if_pos hn, snipP_eq]
      by_cases c : n ≤ x.text.length ∨ n ≤ x.opts.length
      · rw [if_pos c]; simp; omega
      · rw [if_neg c]
        have hf := formB_rng x.form (n := n - 1 - x.text.length) (by omega)
        have ho := optsB_le x.opts (formB x.form (n - 1 - x.text.length))
        cases hm : optsB x.opts (formB x.form (n - 1 - x.text.length)) with
        | mk t m =>
          rw [hm] at ho
          simp only at ho
          have hmr : -n ≤ m ∧ m ≤ n - 1 := by omega
          cases t with
          | false => simp only; omega
          | true =>
            simp only
            by_cases h0 : 0 ≤ m
            · rw [if_pos h0]
              have h1 := ih x.kids (by rw [x.size_eq] at h; omega) m h0
              have hs : -m - 1 ≤ snipsB x.kids m ∧ snipsB x.kids m ≤ m := by
                unfold snipsB
                split <;> omega
              by_cases h2 : 0 ≤ snipsB x.kids m
              · have := ih r (by have := x.size_pos; omega) _ h2
                omega
              · rw [snipsP_neg _ (by omega)]
                simp only
                omega
            · rw [if_neg h0, snipsP_neg _ (by omega)]
              simp only
              omega

theorem snipsB_rng (l : List Snip) {n : Int} (h : 0 ≤ n) : -n - 1 ≤ snipsB l n ∧ snipsB l n ≤ n := by
  have := snips_rng _ l (Nat.le_refl _) n h
  unfold snipsB
  split <;> omega

/-- What fits is no greater. -/
theorem snips_size : ∀ (N : Nat) (l : List Snip), Snip.sizeL l ≤ N → ∀ n : Int, 0 ≤ snipsB l n → snipsB l n = n - Snip.sizeL l := by
  intro N
  induction N with
  | zero =>
    intro l h n hn
    cases l with
    | nil => simp [snipsB, snipsP, Snip.sizeL]
    | cons x r => simp only [Snip.sizeL] at h; have := x.size_pos; omega
  | succ N ih =>
    intro l h n hn
    cases l with
    | nil => simp [snipsB, snipsP, Snip.sizeL]
    | cons x r =>
      simp only [Snip.sizeL] at h ⊢
      by_cases h0 : 0 ≤ n
      · have e : snipsB (x :: r) n = match snipP x n with | (false, _) => -1 | (true, m) => snipsB r m := by
          have e2 : snipsP (x :: r) n = match snipP x n with | (false, m) => (false, m) | (true, m) => snipsP r m := by
            simp only [snipsP]; rw [if_pos h0]
          unfold snipsB
          rw [e2]
          rcases snipP x n with ⟨t, m⟩
          cases t <;> simp
        rw [e] at hn ⊢
        rw [snipP_eq] at hn ⊢
        by_cases c : n ≤ x.text.length ∨ n ≤ x.opts.length
        · rw [if_pos c] at hn; simp at hn
        · rw [if_neg c] at hn ⊢
          have ho := optsB_size x.opts (formB x.form (n - 1 - x.text.length))
          have hol := optsB_le x.opts (formB x.form (n - 1 - x.text.length))
          cases hm : optsB x.opts (formB x.form (n - 1 - x.text.length)) with
          | mk t m =>
            rw [hm] at ho hn hol
            cases t with
            | false => simp at hn
            | true =>
              simp only at ho hn hol ⊢
              have ho := ho trivial
              by_cases h1 : 0 ≤ m
              · rw [if_pos h1] at hn ⊢
                have hr := ih r (by have := x.size_pos; omega) _ hn
                rw [hr]
                have hk : 0 ≤ snipsB x.kids m := by
                  by_cases hb : 0 ≤ snipsB x.kids m
                  · exact hb
                  · have : snipsB r (snipsB x.kids m) = snipsB x.kids m := by
                      rw [snipsB, snipsP_neg _ (by omega)]
                      simp
                    omega
                have hkk := ih x.kids (by rw [x.size_eq] at h; omega) m hk
                have hff := formB_size x.form (n - 1 - x.text.length) (by omega)
                rw [hkk, ho, hff, x.size_eq]
                omega
              · rw [if_neg h1] at hn ⊢
                have : snipsB r m = m := by
                  rw [snipsB, snipsP_neg _ (by omega)]
                  simp
                omega
      · have e : snipsB (x :: r) n = n := by
          unfold snipsB
          rw [snipsP_neg _ (by omega)]
          simp
        omega

set_option maxRecDepth 100000 in
theorem opts_loop (b : Bool) (xs : List Snip) (i : Nat) (x : Snip) (hx : xs[i]? = some x) (hl : x.opts.length ≤ 2 ^ 60) : ∀ (r : List Bytes) (k : Nat) (n : Int), x.opts.drop k = r → -2 ^ 61 ≤ n → n ≤ 2 ^ 60 →
      O.loop 8 2 ⟨[(0, .pv (.sl b 18 (xs.map Snip.enc))), (1, .pv (.int .i64 n)), (5, .pv (.int .i64 i)), (6, .pv (.int .i64 k))], [], 0⟩ =
        match optsB r n with
        | (true, m) => some (.normal, ⟨[(0, .pv (.sl b 18 (xs.map Snip.enc))), (1, .pv (.int .i64 m)), (4, .undef), (5, .pv (.int .i64 i))], [], 0⟩)
        | (false, m) => some (.ret, ⟨[(0, .pv (.sl b 18 (xs.map Snip.enc))), (1, .pv (.int .i64 m)), (4, .pv (.int .i64 (-1))), (5, .pv (.int .i64 i))], [], 0⟩)
  | [], k, n, h, h1, h2 => by
    have hi := drop_none h
    have h4 := map_at (f := Snip.enc) hx
    simp only [Snip.enc_eq, slP] at h4
    refine omega_L fn8 (by rfl) ?_
    simp (disch := first | omega | exact Sure.mk (by kernel_rfl)) only [core.down, tab.down, ↓reduceIte, Nat.reduceLeDiff, Nat.reduceEqDiff, Nat.reduceLT, Nat.reduceAdd, Nat.reduceSub, Nat.reduceMul, reduceCtorEq, Nat.reducePow, needs, aop, aBin, intBin, aLoad, List.toList_toArray, avOf, pvOf, allPV, List.map, List.take, List.drop, List.length_cons, List.length_nil, List.length_map, aStore, AV.stor, AV.cells, List.append, aFieldAddr, List.getElem?_cons_zero, List.getElem?_cons_succ, subHeap, AV.refs, AV.ren, AV.rows, if_true, if_false, List.nil_append, List.append_nil, List.cons_append, tupled, unz, aBuiltin, lenTd, aLen, List.getElem?_nil, touched, beq_self_eq_true, List.isEmpty_nil, Option.some.injEq, ge_iff_le, aUn, pure?, PV.cells, List.replicate, List.set_cons_zero, List.set_cons_succ, aConvert, strBin, sliceOf, bytesOf, eq_self, AV.thaw, Blk.thaw, aSlice, aNil, isNilV, aEq, plainEq, fitAll, keyFits, aMax, maxFrom, aPart, aFind, Blk.ren, Blk.refs, keyEq, aLookup, aUpdate, aEntry, aEntryStore, aDelete, List.flatMap_nil, List.flatMap_cons, gt_iff_lt, sp8_0, sp8_2, sp36_0, sp36_2, sp37_0, coreB.down, h4, optsB]
  | s :: r, k, n, h, hn1, hn2 => by
    obtain ⟨h1, h2, h3⟩ := drop_cons h
    have h4 := map_at (f := Snip.enc) hx
    have h5 := map_at (f := strE) h1
    simp only [Snip.enc_eq, slP] at h4
    by_cases c : n ≤ (s.length : Int)
    · rw [show optsB (s :: r) n = (false, n) by simp [optsB, c]]
      refine omega_L fn8 (by rfl) ?_
      simp (disch := first | omega | exact Sure.mk (by kernel_rfl)) only [core.down, tab.down, ↓reduceIte, Nat.reduceLeDiff, Nat.reduceEqDiff, Nat.reduceLT, Nat.reduceAdd, Nat.reduceSub, Nat.reduceMul, reduceCtorEq, Nat.reducePow, needs, aop, aBin, intBin, aLoad, List.toList_toArray, avOf, pvOf, allPV, List.map, List.take, List.drop, List.length_cons, List.length_nil, List.length_map, aStore, AV.stor, AV.cells, List.append, aFieldAddr, List.getElem?_cons_zero, List.getElem?_cons_succ, subHeap, AV.refs, AV.ren, AV.rows, if_true, if_false, List.nil_append, List.append_nil, List.cons_append, tupled, unz, aBuiltin, lenTd, aLen, List.getElem?_nil, touched, beq_self_eq_true, List.isEmpty_nil, Option.some.injEq, ge_iff_le, aUn, pure?, PV.cells, List.replicate, List.set_cons_zero, List.set_cons_succ, aConvert, strBin, sliceOf, bytesOf, eq_self, AV.thaw, Blk.thaw, aSlice, aNil, isNilV, aEq, plainEq, fitAll, keyFits, aMax, maxFrom, aPart, aFind, Blk.ren, Blk.refs, keyEq, aLookup, aUpdate, aEntry, aEntryStore, aDelete, List.flatMap_nil, List.flatMap_cons, gt_iff_lt, sp8_0, sp8_2, sp36_0, sp36_2, sp37_0, coreB.down, h4, h5, strE]
    · rw [show optsB (s :: r) n = optsB r (n - 1 - s.length) by simp [optsB, c]]
      rw [← opts_loop b xs i x hx hl r (k + 1) (n - 1 - s.length) h2 (by omega) (by omega)]
      refine omega_L fn8 (by rfl) ?_
      simp (disch := first | omega | exact Sure.mk (by kernel_rfl)) only [core.down, tab.down, ↓reduceIte, Nat.reduceLeDiff, Nat.reduceEqDiff, Nat.reduceLT, Nat.reduceAdd, Nat.reduceSub, Nat.reduceMul, reduceCtorEq, Nat.reducePow, needs, aop, aBin, intBin, aLoad, List.toList_toArray, avOf, pvOf, allPV, List.map, List.take, List.drop, List.length_cons, List.length_nil, List.length_map, aStore, AV.stor, AV.cells, List.append, aFieldAddr, List.getElem?_cons_zero, List.getElem?_cons_succ, subHeap, AV.refs, AV.ren, AV.rows, if_true, if_false, List.nil_append, List.append_nil, List.cons_append, tupled, unz, aBuiltin, lenTd, aLen, List.getElem?_nil, touched, beq_self_eq_true, List.isEmpty_nil, Option.some.injEq, ge_iff_le, aUn, pure?, PV.cells, List.replicate, List.set_cons_zero, List.set_cons_succ, aConvert, strBin, sliceOf, bytesOf, eq_self, AV.thaw, Blk.thaw, aSlice, aNil, isNilV, aEq, plainEq, fitAll, keyFits, aMax, maxFrom, aPart, aFind, Blk.ren, Blk.refs, keyEq, aLookup, aUpdate, aEntry, aEntryStore, aDelete, List.flatMap_nil, List.flatMap_cons, gt_iff_lt, sp8_0, sp8_2, sp36_0, sp36_2, sp37_0, coreB.down, h4, h5, strE]

set_option maxRecDepth 100000 in
theorem snips_loop (b : Bool) (xs : List Snip) (hk : ∀ x ∈ xs, ∀ (b : Bool) (m : Int), 0 ≤ m → m ≤ 2 ^ 60 → O.call 8 [.pv (.sl b 18 (x.kids.map Snip.enc)), .pv (.int .i64 m)] [] = some (.pv (.int .i64 (snipsB x.kids m)), [])) :
    ∀ (r : List Snip) (i : Nat) (n : Int), xs.drop i = r → n + i ≤ 2 ^ 60 →
      O.loop 8 0 ⟨[(0, .pv (.sl b 18 (xs.map Snip.enc))), (1, .pv (.int .i64 n)), (5, .pv (.int .i64 i))], [], 0⟩ =
        match snipsP r n with
        | (true, m) => some (.normal, ⟨[(1, .pv (.int .i64 m)), (4, .undef)], [], 0⟩)
        | (false, m) => some (.ret, ⟨[(1, .pv (.int .i64 m)), (4, .pv (.int .i64 (-1)))], [], 0⟩)
  | [], i, n, h, h1 => by
    have hi := drop_none h
    refine omega_L fn8 (by rfl) ?_
    simp (disch := first | omega | exact Sure.mk (by kernel_rfl)) only [core.down, tab.down, ↓reduceIte, Nat.reduceLeDiff, Nat.reduceEqDiff, Nat.reduceLT, Nat.reduceAdd, Nat.reduceSub, Nat.reduceMul, reduceCtorEq, Nat.reducePow, needs, aop, aBin, intBin, aLoad, List.toList_toArray, avOf, pvOf, allPV, List.map, List.take, List.drop, List.length_cons, List.length_nil, List.length_map, aStore, AV.stor, AV.cells, List.append, aFieldAddr, List.getElem?_cons_zero, List.getElem?_cons_succ, subHeap, AV.refs, AV.ren, AV.rows, if_true, if_false, List.nil_append, List.append_nil, List.cons_append, tupled, unz, aBuiltin, lenTd, aLen, List.getElem?_nil, touched, beq_self_eq_true, List.isEmpty_nil, Option.some.injEq, ge_iff_le, aUn, pure?, PV.cells, List.replicate, List.set_cons_zero, List.set_cons_succ, aConvert, strBin, sliceOf, bytesOf, eq_self, AV.thaw, Blk.thaw, aSlice, aNil, isNilV, aEq, plainEq, fitAll, keyFits, aMax, maxFrom, aPart, aFind, Blk.ren, Blk.refs, keyEq, aLookup, aUpdate, aEntry, aEntryStore, aDelete, List.flatMap_nil, List.flatMap_cons, gt_iff_lt, sp8_0, sp8_2, sp36_0, sp36_2, sp37_0, coreB.down, snipsP]
  | x :: r, i, n, h, hn => by
    obtain ⟨h1, h2, h3⟩ := drop_cons h
    have h4 := map_at (f := Snip.enc) h1
    simp only [Snip.enc_eq, slP] at h4
    by_cases c0 : 0 ≤ n
    · by_cases c1 : n ≤ (x.text.length : Int)
      · rw [show snipsP (x :: r) n = (false, n) by simp only [snipsP]; rw [if_pos c0, snipP_eq, if_pos (.inl c1)]]
        refine omega_L fn8 (by rfl) ?_
        simp (disch := first | omega | exact Sure.mk (by kernel_rfl)) only [core.down, tab.down, ↓reduceIte, Nat.reduceLeDiff, Nat.reduceEqDiff, Nat.reduceLT, Nat.reduceAdd, Nat.reduceSub, Nat.reduceMul, reduceCtorEq, Nat.reducePow, needs, aop, aBin, intBin, aLoad, List.toList_toArray, avOf, pvOf, allPV, List.map, List.take, List.drop, List.length_cons, List.length_nil, List.length_map, aStore, AV.stor, AV.cells, List.append, aFieldAddr, List.getElem?_cons_zero, List.getElem?_cons_succ, subHeap, AV.refs, AV.ren, AV.rows, if_true, if_false, List.nil_append, List.append_nil, List.cons_append, tupled, unz, aBuiltin, lenTd, aLen, List.getElem?_nil, touched, beq_self_eq_true, List.isEmpty_nil, Option.some.injEq, ge_iff_le, aUn, pure?, PV.cells, List.replicate, List.set_cons_zero, List.set_cons_succ, aConvert, strBin, sliceOf, bytesOf, eq_self, AV.thaw, Blk.thaw, aSlice, aNil, isNilV, aEq, plainEq, fitAll, keyFits, aMax, maxFrom, aPart, aFind, Blk.ren, Blk.refs, keyEq, aLookup, aUpdate, aEntry, aEntryStore, aDelete, List.flatMap_nil, List.flatMap_cons, gt_iff_lt, sp8_0, sp8_2, sp36_0, sp36_2, sp37_0, coreB.down, h4]
      by_cases c2 : n ≤ (x.opts.length : Int)
      · rw [show snipsP (x :: r) n = (false, n) by simp only [snipsP]; rw [if_pos c0, snipP_eq, if_pos (.inr c2)]]
        refine omega_L fn8 (by rfl) ?_
        simp (disch := first | omega | exact Sure.mk (by kernel_rfl)) only [core.down, tab.down, ↓reduceIte, Nat.reduceLeDiff, Nat.reduceEqDiff, Nat.reduceLT, Nat.reduceAdd, Nat.reduceSub, Nat.reduceMul, reduceCtorEq, Nat.reducePow, needs, aop, aBin, intBin, aLoad, List.toList_toArray, avOf, pvOf, allPV, List.map, List.take, List.drop, List.length_cons, List.length_nil, List.length_map, aStore, AV.stor, AV.cells, List.append, aFieldAddr, List.getElem?_cons_zero, List.getElem?_cons_succ, subHeap, AV.refs, AV.ren, AV.rows, if_true, if_false, List.nil_append, List.append_nil, List.cons_append, tupled, unz, aBuiltin, lenTd, aLen, List.getElem?_nil, touched, beq_self_eq_true, List.isEmpty_nil, Option.some.injEq, ge_iff_le, aUn, pure?, PV.cells, List.replicate, List.set_cons_zero, List.set_cons_succ, aConvert, strBin, sliceOf, bytesOf, eq_self, AV.thaw, Blk.thaw, aSlice, aNil, isNilV, aEq, plainEq, fitAll, keyFits, aMax, maxFrom, aPart, aFind, Blk.ren, Blk.refs, keyEq, aLookup, aUpdate, aEntry, aEntryStore, aDelete, List.flatMap_nil, List.flatMap_cons, gt_iff_lt, sp8_0, sp8_2, sp36_0, sp36_2, sp37_0, coreB.down, h4]
      have hf := form_call x.form (n := n - 1 - x.text.length) (by omega) (by omega)
      have hr := formB_rng x.form (n := n - 1 - x.text.length) (by omega)
      have ho := optsB_le x.opts (formB x.form (n - 1 - x.text.length))
      have hL := opts_loop b xs i x h1 (by omega) x.opts 0 (formB x.form (n - 1 - x.text.length)) rfl (by omega) (by omega)
      have e : snipsP (x :: r) n = match optsB x.opts (formB x.form (n - 1 - x.text.length)) with
          | (false, m) => (false, m)
          | (true, m) => snipsP r (if 0 ≤ m then snipsB x.kids m else m) := by
        simp only [snipsP]
        rw [if_pos c0, snipP_eq, if_neg (by omega)]
        rcases optsB x.opts (formB x.form (n - 1 - x.text.length)) with ⟨t, m⟩
        cases t <;> rfl
      rw [e]
      simp only [Gm.Form.enc_eq, slP] at hf
      simp only [Int.natCast_zero] at hL
      cases hm : optsB x.opts (formB x.form (n - 1 - x.text.length)) with
      | mk t m =>
        rw [hm] at hL ho
        simp only at ho
        cases t with
        | false =>
          simp only at hL
          refine omega_L fn8 (by rfl) ?_
          simp (disch := first | omega | exact Sure.mk (by kernel_rfl)) only [core.down, tab.down, ↓reduceIte, Nat.reduceLeDiff, Nat.reduceEqDiff, Nat.reduceLT, Nat.reduceAdd, Nat.reduceSub, Nat.reduceMul, reduceCtorEq, Nat.reducePow, needs, aop, aBin, intBin, aLoad, List.toList_toArray, avOf, pvOf, allPV, List.map, List.take, List.drop, List.length_cons, List.length_nil, List.length_map, aStore, AV.stor, AV.cells, List.append, aFieldAddr, List.getElem?_cons_zero, List.getElem?_cons_succ, subHeap, AV.refs, AV.ren, AV.rows, if_true, if_false, List.nil_append, List.append_nil, List.cons_append, tupled, unz, aBuiltin, lenTd, aLen, List.getElem?_nil, touched, beq_self_eq_true, List.isEmpty_nil, Option.some.injEq, ge_iff_le, aUn, pure?, PV.cells, List.replicate, List.set_cons_zero, List.set_cons_succ, aConvert, strBin, sliceOf, bytesOf, eq_self, AV.thaw, Blk.thaw, aSlice, aNil, isNilV, aEq, plainEq, fitAll, keyFits, aMax, maxFrom, aPart, aFind, Blk.ren, Blk.refs, keyEq, aLookup, aUpdate, aEntry, aEntryStore, aDelete, List.flatMap_nil, List.flatMap_cons, gt_iff_lt, sp8_0, sp8_2, sp36_0, sp36_2, sp37_0, coreB.down, h4, hf, hL]
        | true =>
          simp only at hL
          by_cases c3 : 0 ≤ m
          · have hc := hk x (List.mem_of_getElem? h1) (x.kn && (x.kids.map Snip.enc).isEmpty) m c3 (by omega)
            have hs := snipsB_rng x.kids c3
            simp only
            rw [if_pos c3, ← snips_loop b xs hk r (i + 1) (snipsB x.kids m) h2 (by omega)]
            refine omega_L fn8 (by rfl) ?_
            simp (disch := first | omega | exact Sure.mk (by kernel_rfl)) only [core.down, tab.down, ↓reduceIte, Nat.reduceLeDiff, Nat.reduceEqDiff, Nat.reduceLT, Nat.reduceAdd, Nat.reduceSub, Nat.reduceMul, reduceCtorEq, Nat.reducePow, needs, aop, aBin, intBin, aLoad, List.toList_toArray, avOf, pvOf, allPV, List.map, List.take, List.drop, List.length_cons, List.length_nil, List.length_map, aStore, AV.stor, AV.cells, List.append, aFieldAddr, List.getElem?_cons_zero, List.getElem?_cons_succ, subHeap, AV.refs, AV.ren, AV.rows, if_true, if_false, List.nil_append, List.append_nil, List.cons_append, tupled, unz, aBuiltin, lenTd, aLen, List.getElem?_nil, touched, beq_self_eq_true, List.isEmpty_nil, Option.some.injEq, ge_iff_le, aUn, pure?, PV.cells, List.replicate, List.set_cons_zero, List.set_cons_succ, aConvert, strBin, sliceOf, bytesOf, eq_self, AV.thaw, Blk.thaw, aSlice, aNil, isNilV, aEq, plainEq, fitAll, keyFits, aMax, maxFrom, aPart, aFind, Blk.ren, Blk.refs, keyEq, aLookup, aUpdate, aEntry, aEntryStore, aDelete, List.flatMap_nil, List.flatMap_cons, gt_iff_lt, sp8_0, sp8_2, sp36_0, sp36_2, sp37_0, coreB.down, h4, hf, hL, hc]
          · simp only
            rw [if_neg c3, ← snips_loop b xs hk r (i + 1) m h2 (by omega)]
            refine omega_L fn8 (by rfl) ?_
            simp (disch := first | omega | exact Sure.mk (by kernel_rfl)) only [core.down, tab.down, ↓reduceIte, Nat.reduceLeDiff, Nat.reduceEqDiff, Nat.reduceLT, Nat.reduceAdd, Nat.reduceSub, Nat.reduceMul, reduceCtorEq, Nat.reducePow, needs, aop, aBin, intBin, aLoad, List.toList_toArray, avOf, pvOf, allPV, List.map, List.take, List.drop, List.length_cons, List.length_nil, List.length_map, aStore, AV.stor, AV.cells, List.append, aFieldAddr, List.getElem?_cons_zero, List.getElem?_cons_succ, subHeap, AV.refs, AV.ren, AV.rows, if_true, if_false, List.nil_append, List.append_nil, List.cons_append, tupled, unz, aBuiltin, lenTd, aLen, List.getElem?_nil, touched, beq_self_eq_true, List.isEmpty_nil, Option.some.injEq, ge_iff_le, aUn, pure?, PV.cells, List.replicate, List.set_cons_zero, List.set_cons_succ, aConvert, strBin, sliceOf, bytesOf, eq_self, AV.thaw, Blk.thaw, aSlice, aNil, isNilV, aEq, plainEq, fitAll, keyFits, aMax, maxFrom, aPart, aFind, Blk.ren, Blk.refs, keyEq, aLookup, aUpdate, aEntry, aEntryStore, aDelete, List.flatMap_nil, List.flatMap_cons, gt_iff_lt, sp8_0, sp8_2, sp36_0, sp36_2, sp37_0, coreB.down, h4, hf, hL]
    · rw [snipsP_neg _ (by omega)]
      refine omega_L fn8 (by rfl) ?_
      simp (disch := first | omega | exact Sure.mk (by kernel_rfl)) only [core.down, tab.down, ↓reduceIte, Nat.reduceLeDiff, Nat.reduceEqDiff, Nat.reduceLT, Nat.reduceAdd, Nat.reduceSub, Nat.reduceMul, reduceCtorEq, Nat.reducePow, needs, aop, aBin, intBin, aLoad, List.toList_toArray, avOf, pvOf, allPV, List.map, List.take, List.drop, List.length_cons, List.length_nil, List.length_map, aStore, AV.stor, AV.cells, List.append, aFieldAddr, List.getElem?_cons_zero, List.getElem?_cons_succ, subHeap, AV.refs, AV.ren, AV.rows, if_true, if_false, List.nil_append, List.append_nil, List.cons_append, tupled, unz, aBuiltin, lenTd, aLen, List.getElem?_nil, touched, beq_self_eq_true, List.isEmpty_nil, Option.some.injEq, ge_iff_le, aUn, pure?, PV.cells, List.replicate, List.set_cons_zero, List.set_cons_succ, aConvert, strBin, sliceOf, bytesOf, eq_self, AV.thaw, Blk.thaw, aSlice, aNil, isNilV, aEq, plainEq, fitAll, keyFits, aMax, maxFrom, aPart, aFind, Blk.ren, Blk.refs, keyEq, aLookup, aUpdate, aEntry, aEntryStore, aDelete, List.flatMap_nil, List.flatMap_cons, gt_iff_lt, sp8_0, sp8_2, sp36_0, sp36_2, sp37_0, coreB.down]

set_option maxRecDepth 100000 in
theorem snips_eq : ∀ (N : Nat) (l : List Snip), Snip.sizeL l ≤ N → ∀ (b : Bool) (n : Int), 0 ≤ n → n ≤ 2 ^ 60 →
    O.call 8 [.pv (.sl b 18 (l.map Snip.enc)), .pv (.int .i64 n)] [] = some (.pv (.int .i64 (snipsB l n)), []) := by
  intro N
  induction N using Nat.strongRecOn with
  | _ N ih =>
    intro l h b n hn1 hn2
    have hL := snips_loop b l (fun x hx b m h1 h2 => ih (Snip.sizeL x.kids) (by have := kids_less hx; omega) x.kids (Nat.le_refl _) b m h1 h2) l 0 n rfl (by omega)
    simp only [Int.natCast_zero] at hL
    refine omega_F rfl fn8 (by rfl) (by rfl) rfl ?_
    unfold snipsB
    cases hm : snipsP l n with
    | mk t m =>
    rw [hm] at hL
    cases t
    · simp only [Bool.false_eq_true, if_false]
      simp (disch := first | omega | exact Sure.mk (by kernel_rfl)) only [core.down, tab.down, ↓reduceIte, Nat.reduceLeDiff, Nat.reduceEqDiff, Nat.reduceLT, Nat.reduceAdd, Nat.reduceSub, Nat.reduceMul, reduceCtorEq, Nat.reducePow, needs, aop, aBin, intBin, aLoad, List.toList_toArray, avOf, pvOf, allPV, List.map, List.take, List.drop, List.length_cons, List.length_nil, List.length_map, aStore, AV.stor, AV.cells, List.append, aFieldAddr, List.getElem?_cons_zero, List.getElem?_cons_succ, subHeap, AV.refs, AV.ren, AV.rows, if_true, if_false, List.nil_append, List.append_nil, List.cons_append, tupled, unz, aBuiltin, lenTd, aLen, List.getElem?_nil, touched, beq_self_eq_true, List.isEmpty_nil, Option.some.injEq, ge_iff_le, aUn, pure?, PV.cells, List.replicate, List.set_cons_zero, List.set_cons_succ, aConvert, strBin, sliceOf, bytesOf, eq_self, AV.thaw, Blk.thaw, aSlice, aNil, isNilV, aEq, plainEq, fitAll, keyFits, aMax, maxFrom, aPart, aFind, Blk.ren, Blk.refs, keyEq, aLookup, aUpdate, aEntry, aEntryStore, aDelete, List.flatMap_nil, List.flatMap_cons, gt_iff_lt, sp8_0, sp8_2, sp36_0, sp36_2, sp37_0, coreB.down, hL]
    · simp only [if_true]
      simp (disch := first | omega | exact Sure.mk (by kernel_rfl)) only [core.down, tab.down, ↓reduceIte, Nat.reduceLeDiff, Nat.reduceEqDiff, Nat.reduceLT, Nat.reduceAdd, Nat.reduceSub, Nat.reduceMul, reduceCtorEq, Nat.reducePow, needs, aop, aBin, intBin, aLoad, List.toList_toArray, avOf, pvOf, allPV, List.map, List.take, List.drop, List.length_cons, List.length_nil, List.length_map, aStore, AV.stor, AV.cells, List.append, aFieldAddr, List.getElem?_cons_zero, List.getElem?_cons_succ, subHeap, AV.refs, AV.ren, AV.rows, if_true, if_false, List.nil_append, List.append_nil, List.cons_append, tupled, unz, aBuiltin, lenTd, aLen, List.getElem?_nil, touched, beq_self_eq_true, List.isEmpty_nil, Option.some.injEq, ge_iff_le, aUn, pure?, PV.cells, List.replicate, List.set_cons_zero, List.set_cons_succ, aConvert, strBin, sliceOf, bytesOf, eq_self, AV.thaw, Blk.thaw, aSlice, aNil, isNilV, aEq, plainEq, fitAll, keyFits, aMax, maxFrom, aPart, aFind, Blk.ren, Blk.refs, keyEq, aLookup, aUpdate, aEntry, aEntryStore, aDelete, List.flatMap_nil, List.flatMap_cons, gt_iff_lt, sp8_0, sp8_2, sp36_0, sp36_2, sp37_0, coreB.down, hL]

end Go.Proofs.Ytmlmgbnhaenabaa
