/-
  Names.
-/
import Derived.Test.YtmlmgbnhaenabaaGp
set_option linter.unusedSimpArgs false
set_option linter.unusedVariables false
namespace Go.Proofs.Ytmlmgbnhaenabaa
open Go Go.Gm
def S : Special := ⟨fun _ => none⟩
noncomputable abbrev O : Oracle := omega G S

def letterB (n : Nat) : Bool := decide (65 ≤ n) && decide (n ≤ 90) || decide (97 ≤ n) && decide (n ≤ 122)
def digitB (n : Nat) : Bool := decide (48 ≤ n) && decide (n ≤ 57)
def nameByteB (n : Nat) : Bool := letterB n || digitB n || n == 95

theorem of_table {α : Type} {f g : Nat → α} (h : (List.range 256).map f = (List.range 256).map g) (c : UInt8) : f c.toNat = g c.toNat := by
  have h1 := congrArg (fun l => l[c.toNat]?) h
  have hc := c.toNat_lt
  have hr : (List.range 256)[c.toNat]? = some c.toNat := by
    rw [List.getElem?_range]
    exact hc
  simpa [hr] using h1

theorem letter_tab : (List.range 256).map (fun n => (orc G S 3).call 30 [.pv (.int .u8 (n : Nat))] []) = (List.range 256).map (fun n => some (.pv (.bool (letterB n)), [])) := by kernel_rfl
theorem digit_tab : (List.range 256).map (fun n => (orc G S 3).call 31 [.pv (.int .u8 (n : Nat))] []) = (List.range 256).map (fun n => some (.pv (.bool (digitB n)), [])) := by kernel_rfl
theorem nameByte_tab : (List.range 256).map (fun n => (orc G S 3).call 29 [.pv (.int .u8 (n : Nat))] []) = (List.range 256).map (fun n => some (.pv (.bool (nameByteB n)), [])) := by kernel_rfl
theorem letter_eq (c : UInt8) : O.call 30 [.pv (.int .u8 (c.toNat : Nat))] [] = some (.pv (.bool (letterB c.toNat)), []) := orc_call (of_table letter_tab c)
theorem digit_eq (c : UInt8) : O.call 31 [.pv (.int .u8 (c.toNat : Nat))] [] = some (.pv (.bool (digitB c.toNat)), []) := orc_call (of_table digit_tab c)
theorem nameByte_eq (c : UInt8) : O.call 29 [.pv (.int .u8 (c.toNat : Nat))] [] = some (.pv (.bool (nameByteB c.toNat)), []) := orc_call (of_table nameByte_tab c)

/-- May a byte stand there in a name? -/
def chB (first : Bool) (c : UInt8) : Bool := letterB c.toNat || c.toNat == 95 || !first && digitB c.toNat
def charsB : Bool → Bytes → Bool
  | _, [] => true
  | first, c :: r => chB first c && charsB false r
def nameB (s : Bytes) : Bool := !s.isEmpty && decide (s.length ≤ 64) && charsB true s

theorem low57 (c : UInt8) : nameByteB c.toNat = true → (chB true c = !decide ((c.toNat : Int) ≤ 57)) ∧ chB false c = true := by
  have h := of_table (f := fun n => !nameByteB n || ((letterB n || n == 95 || !true && digitB n) == !decide ((n : Int) ≤ 57)) && (letterB n || n == 95 || !false && digitB n)) (g := fun _ => true) (by kernel_rfl) c
  intro hn
  simp only [hn, Bool.not_true, Bool.false_or, Bool.and_eq_true, beq_iff_eq] at h
  exact h

theorem ch_not (c : UInt8) (b : Bool) (h : nameByteB c.toNat = false) : chB b c = false := by
  simp only [nameByteB, Bool.or_eq_false_iff] at h
  simp [chB, h.1.1, h.1.2, h.2]

set_option maxRecDepth 100000 in
theorem name_loop (s : Bytes) : ∀ (r : Bytes) (i : Nat), s.drop i = r → s.length < 2 ^ 62 →
    O.loop 16 0 ⟨[(0, .pv (.str s)), (3, .pv (.int .i64 i))], [], 0⟩ =
      match charsB (i == 0) r with
      | true => some (.normal, ⟨[(0, .pv (.str s)), (2, .undef)], [], 0⟩)
      | false => some (.ret, ⟨[(0, .pv (.str s)), (2, .pv (.bool false))], [], 0⟩)
  | [], i, h, hl => by
    have hi := drop_none h
    refine omega_L fn16 (by rfl) ?_
    simp (disch := first | omega | exact Sure.mk (by kernel_rfl)) only [core.down, tab.down, ↓reduceIte, Nat.reduceLeDiff, Nat.reduceEqDiff, Nat.reduceLT, Nat.reduceAdd, Nat.reduceSub, Nat.reduceMul, reduceCtorEq, Nat.reducePow, needs, aop, aBin, intBin, aLoad, List.toList_toArray, avOf, pvOf, allPV, List.map, List.take, List.drop, List.length_cons, List.length_nil, List.length_map, aStore, AV.stor, AV.cells, List.append, aFieldAddr, List.getElem?_cons_zero, List.getElem?_cons_succ, subHeap, AV.refs, AV.ren, AV.rows, if_true, if_false, List.nil_append, List.append_nil, List.cons_append, tupled, unz, aBuiltin, lenTd, aLen, List.getElem?_nil, touched, beq_self_eq_true, List.isEmpty_nil, Option.some.injEq, ge_iff_le, aUn, pure?, PV.cells, List.replicate, List.set_cons_zero, List.set_cons_succ, aConvert, strBin, sliceOf, bytesOf, eq_self, AV.thaw, Blk.thaw, aSlice, aNil, isNilV, aEq, plainEq, fitAll, keyFits, aMax, maxFrom, aPart, aFind, Blk.ren, Blk.refs, keyEq, aLookup, aUpdate, aEntry, aEntryStore, aDelete, List.flatMap_nil, List.flatMap_cons, gt_iff_lt, sp16_0, sp17_0, coreB.down, charsB]
  | c :: r, i, h, hl => by
    obtain ⟨h1, h2, h3⟩ := drop_cons h
    cases hn : nameByteB c.toNat with
    | false =>
      rw [show charsB (i == 0) (c :: r) = false by simp [charsB, ch_not c _ hn]]
      refine omega_L fn16 (by rfl) ?_
      simp (disch := first | omega | exact Sure.mk (by kernel_rfl)) only [core.down, tab.down, ↓reduceIte, Nat.reduceLeDiff, Nat.reduceEqDiff, Nat.reduceLT, Nat.reduceAdd, Nat.reduceSub, Nat.reduceMul, reduceCtorEq, Nat.reducePow, needs, aop, aBin, intBin, aLoad, List.toList_toArray, avOf, pvOf, allPV, List.map, List.take, List.drop, List.length_cons, List.length_nil, List.length_map, aStore, AV.stor, AV.cells, List.append, aFieldAddr, List.getElem?_cons_zero, List.getElem?_cons_succ, subHeap, AV.refs, AV.ren, AV.rows, if_true, if_false, List.nil_append, List.append_nil, List.cons_append, tupled, unz, aBuiltin, lenTd, aLen, List.getElem?_nil, touched, beq_self_eq_true, List.isEmpty_nil, Option.some.injEq, ge_iff_le, aUn, pure?, PV.cells, List.replicate, List.set_cons_zero, List.set_cons_succ, aConvert, strBin, sliceOf, bytesOf, eq_self, AV.thaw, Blk.thaw, aSlice, aNil, isNilV, aEq, plainEq, fitAll, keyFits, aMax, maxFrom, aPart, aFind, Blk.ren, Blk.refs, keyEq, aLookup, aUpdate, aEntry, aEntryStore, aDelete, List.flatMap_nil, List.flatMap_cons, gt_iff_lt, sp16_0, sp17_0, coreB.down, h1, nameByte_eq, hn]
    | true =>
      obtain ⟨k1, k2⟩ := low57 c hn
      by_cases hz : i = 0
      · subst hz
        by_cases hd : (c.toNat : Int) ≤ 57
        · rw [show charsB (0 == 0) (c :: r) = false by simp [charsB, k1]; intro _; omega]
          refine omega_L fn16 (by rfl) ?_
          simp (disch := first | omega | exact Sure.mk (by kernel_rfl)) only [core.down, tab.down, ↓reduceIte, Nat.reduceLeDiff, Nat.reduceEqDiff, Nat.reduceLT, Nat.reduceAdd, Nat.reduceSub, Nat.reduceMul, reduceCtorEq, Nat.reducePow, needs, aop, aBin, intBin, aLoad, List.toList_toArray, avOf, pvOf, allPV, List.map, List.take, List.drop, List.length_cons, List.length_nil, List.length_map, aStore, AV.stor, AV.cells, List.append, aFieldAddr, List.getElem?_cons_zero, List.getElem?_cons_succ, subHeap, AV.refs, AV.ren, AV.rows, if_true, if_false, List.nil_append, List.append_nil, List.cons_append, tupled, unz, aBuiltin, lenTd, aLen, List.getElem?_nil, touched, beq_self_eq_true, List.isEmpty_nil, Option.some.injEq, ge_iff_le, aUn, pure?, PV.cells, List.replicate, List.set_cons_zero, List.set_cons_succ, aConvert, strBin, sliceOf, bytesOf, eq_self, AV.thaw, Blk.thaw, aSlice, aNil, isNilV, aEq, plainEq, fitAll, keyFits, aMax, maxFrom, aPart, aFind, Blk.ren, Blk.refs, keyEq, aLookup, aUpdate, aEntry, aEntryStore, aDelete, List.flatMap_nil, List.flatMap_cons, gt_iff_lt, sp16_0, sp17_0, coreB.down, h1, nameByte_eq, hn, Int.natCast_zero, Int.toNat_zero]
        · rw [show charsB (0 == 0) (c :: r) = charsB (0 + 1 == 0) r by simp [charsB, k1]; intro _; omega]
          rw [← name_loop s r (0 + 1) h2 hl]
          refine omega_L fn16 (by rfl) ?_
          simp (disch := first | omega | exact Sure.mk (by kernel_rfl)) only [core.down, tab.down, ↓reduceIte, Nat.reduceLeDiff, Nat.reduceEqDiff, Nat.reduceLT, Nat.reduceAdd, Nat.reduceSub, Nat.reduceMul, reduceCtorEq, Nat.reducePow, needs, aop, aBin, intBin, aLoad, List.toList_toArray, avOf, pvOf, allPV, List.map, List.take, List.drop, List.length_cons, List.length_nil, List.length_map, aStore, AV.stor, AV.cells, List.append, aFieldAddr, List.getElem?_cons_zero, List.getElem?_cons_succ, subHeap, AV.refs, AV.ren, AV.rows, if_true, if_false, List.nil_append, List.append_nil, List.cons_append, tupled, unz, aBuiltin, lenTd, aLen, List.getElem?_nil, touched, beq_self_eq_true, List.isEmpty_nil, Option.some.injEq, ge_iff_le, aUn, pure?, PV.cells, List.replicate, List.set_cons_zero, List.set_cons_succ, aConvert, strBin, sliceOf, bytesOf, eq_self, AV.thaw, Blk.thaw, aSlice, aNil, isNilV, aEq, plainEq, fitAll, keyFits, aMax, maxFrom, aPart, aFind, Blk.ren, Blk.refs, keyEq, aLookup, aUpdate, aEntry, aEntryStore, aDelete, List.flatMap_nil, List.flatMap_cons, gt_iff_lt, sp16_0, sp17_0, coreB.down, h1, nameByte_eq, hn, Int.natCast_zero, Int.toNat_zero]
      · rw [show charsB (i == 0) (c :: r) = charsB (i + 1 == 0) r by simp [charsB, k2, show (i == 0) = false by simpa using hz]]
        rw [← name_loop s r (i + 1) h2 hl]
        refine omega_L fn16 (by rfl) ?_
        simp (disch := first | omega | exact Sure.mk (by kernel_rfl)) only [core.down, tab.down, ↓reduceIte, Nat.reduceLeDiff, Nat.reduceEqDiff, Nat.reduceLT, Nat.reduceAdd, Nat.reduceSub, Nat.reduceMul, reduceCtorEq, Nat.reducePow, needs, aop, aBin, intBin, aLoad, List.toList_toArray, avOf, pvOf, allPV, List.map, List.take, List.drop, List.length_cons, List.length_nil, List.length_map, aStore, AV.stor, AV.cells, List.append, aFieldAddr, List.getElem?_cons_zero, List.getElem?_cons_succ, subHeap, AV.refs, AV.ren, AV.rows, if_true, if_false, List.nil_append, List.append_nil, List.cons_append, tupled, unz, aBuiltin, lenTd, aLen, List.getElem?_nil, touched, beq_self_eq_true, List.isEmpty_nil, Option.some.injEq, ge_iff_le, aUn, pure?, PV.cells, List.replicate, List.set_cons_zero, List.set_cons_succ, aConvert, strBin, sliceOf, bytesOf, eq_self, AV.thaw, Blk.thaw, aSlice, aNil, isNilV, aEq, plainEq, fitAll, keyFits, aMax, maxFrom, aPart, aFind, Blk.ren, Blk.refs, keyEq, aLookup, aUpdate, aEntry, aEntryStore, aDelete, List.flatMap_nil, List.flatMap_cons, gt_iff_lt, sp16_0, sp17_0, coreB.down, h1, nameByte_eq, hn]

set_option maxRecDepth 100000 in
theorem name_eq (s : Bytes) (hl : s.length < 2 ^ 62) : O.call 16 [.pv (.str s)] [] = some (.pv (.bool (nameB s)), []) := by
  have hL := name_loop s s 0 rfl hl
  simp only [Int.natCast_zero] at hL
  refine omega_F rfl fn16 (by rfl) (by rfl) rfl ?_
  unfold nameB
  cases hc : charsB true s
  · rw [show (0 == 0) = true from rfl, hc] at hL
    simp (disch := first | omega | exact Sure.mk (by kernel_rfl)) only [core.down, tab.down, ↓reduceIte, Nat.reduceLeDiff, Nat.reduceEqDiff, Nat.reduceLT, Nat.reduceAdd, Nat.reduceSub, Nat.reduceMul, reduceCtorEq, Nat.reducePow, needs, aop, aBin, intBin, aLoad, List.toList_toArray, avOf, pvOf, allPV, List.map, List.take, List.drop, List.length_cons, List.length_nil, List.length_map, aStore, AV.stor, AV.cells, List.append, aFieldAddr, List.getElem?_cons_zero, List.getElem?_cons_succ, subHeap, AV.refs, AV.ren, AV.rows, if_true, if_false, List.nil_append, List.append_nil, List.cons_append, tupled, unz, aBuiltin, lenTd, aLen, List.getElem?_nil, touched, beq_self_eq_true, List.isEmpty_nil, Option.some.injEq, ge_iff_le, aUn, pure?, PV.cells, List.replicate, List.set_cons_zero, List.set_cons_succ, aConvert, strBin, sliceOf, bytesOf, eq_self, AV.thaw, Blk.thaw, aSlice, aNil, isNilV, aEq, plainEq, fitAll, keyFits, aMax, maxFrom, aPart, aFind, Blk.ren, Blk.refs, keyEq, aLookup, aUpdate, aEntry, aEntryStore, aDelete, List.flatMap_nil, List.flatMap_cons, gt_iff_lt, sp16_0, sp17_0, coreB.down, hL, strBin]
  · rw [show (0 == 0) = true from rfl, hc] at hL
    cases s with
    | nil => simp (disch := first | omega | exact Sure.mk (by kernel_rfl)) only [core.down, tab.down, ↓reduceIte, Nat.reduceLeDiff, Nat.reduceEqDiff, Nat.reduceLT, Nat.reduceAdd, Nat.reduceSub, Nat.reduceMul, reduceCtorEq, Nat.reducePow, needs, aop, aBin, intBin, aLoad, List.toList_toArray, avOf, pvOf, allPV, List.map, List.take, List.drop, List.length_cons, List.length_nil, List.length_map, aStore, AV.stor, AV.cells, List.append, aFieldAddr, List.getElem?_cons_zero, List.getElem?_cons_succ, subHeap, AV.refs, AV.ren, AV.rows, if_true, if_false, List.nil_append, List.append_nil, List.cons_append, tupled, unz, aBuiltin, lenTd, aLen, List.getElem?_nil, touched, beq_self_eq_true, List.isEmpty_nil, Option.some.injEq, ge_iff_le, aUn, pure?, PV.cells, List.replicate, List.set_cons_zero, List.set_cons_succ, aConvert, strBin, sliceOf, bytesOf, eq_self, AV.thaw, Blk.thaw, aSlice, aNil, isNilV, aEq, plainEq, fitAll, keyFits, aMax, maxFrom, aPart, aFind, Blk.ren, Blk.refs, keyEq, aLookup, aUpdate, aEntry, aEntryStore, aDelete, List.flatMap_nil, List.flatMap_cons, gt_iff_lt, sp16_0, sp17_0, coreB.down, hL, strBin, bne_self_eq_false]
    | cons c r =>
      have hb : (!(c :: r == [])) = true := rfl
      simp (disch := first | omega | exact Sure.mk (by kernel_rfl)) only [core.down, tab.down, ↓reduceIte, Nat.reduceLeDiff, Nat.reduceEqDiff, Nat.reduceLT, Nat.reduceAdd, Nat.reduceSub, Nat.reduceMul, reduceCtorEq, Nat.reducePow, needs, aop, aBin, intBin, aLoad, List.toList_toArray, avOf, pvOf, allPV, List.map, List.take, List.drop, List.length_cons, List.length_nil, List.length_map, aStore, AV.stor, AV.cells, List.append, aFieldAddr, List.getElem?_cons_zero, List.getElem?_cons_succ, subHeap, AV.refs, AV.ren, AV.rows, if_true, if_false, List.nil_append, List.append_nil, List.cons_append, tupled, unz, aBuiltin, lenTd, aLen, List.getElem?_nil, touched, beq_self_eq_true, List.isEmpty_nil, Option.some.injEq, ge_iff_le, aUn, pure?, PV.cells, List.replicate, List.set_cons_zero, List.set_cons_succ, aConvert, strBin, sliceOf, bytesOf, eq_self, AV.thaw, Blk.thaw, aSlice, aNil, isNilV, aEq, plainEq, fitAll, keyFits, aMax, maxFrom, aPart, aFind, Blk.ren, Blk.refs, keyEq, aLookup, aUpdate, aEntry, aEntryStore, aDelete, List.flatMap_nil, List.flatMap_cons, gt_iff_lt, sp16_0, sp17_0, coreB.down, hL, strBin, hb]
      simp
      omega


theorem chB_ref (f : Bool) (c : UInt8) (h : letterB c.toNat = false) (h95 : ¬ (c.toNat : Int) = 95) : chB f c = (!f && digitB c.toNat) := by
  have : (c.toNat == 95) = false := by
    simp only [beq_eq_false_iff_ne]
    omega
  simp [chB, h, this]

set_option maxRecDepth 100000 in
theorem rname_loop (s : Bytes) : ∀ (r : Bytes) (i : Nat), s.drop i = r → s.length < 2 ^ 62 →
    O.loop 17 0 ⟨[(0, .pv (.str s)), (3, .pv (.int .i64 i))], [], 0⟩ =
      match charsB (i == 0) r with
      | true => some (.normal, ⟨[(2, .undef)], [], 0⟩)
      | false => some (.ret, ⟨[(2, .pv (.bool false))], [], 0⟩)
  | [], i, h, hl => by
    have hi := drop_none h
    refine omega_L fn17 (by rfl) ?_
    simp (disch := first | omega | exact Sure.mk (by kernel_rfl)) only [core.down, tab.down, ↓reduceIte, Nat.reduceLeDiff, Nat.reduceEqDiff, Nat.reduceLT, Nat.reduceAdd, Nat.reduceSub, Nat.reduceMul, reduceCtorEq, Nat.reducePow, needs, aop, aBin, intBin, aLoad, List.toList_toArray, avOf, pvOf, allPV, List.map, List.take, List.drop, List.length_cons, List.length_nil, List.length_map, aStore, AV.stor, AV.cells, List.append, aFieldAddr, List.getElem?_cons_zero, List.getElem?_cons_succ, subHeap, AV.refs, AV.ren, AV.rows, if_true, if_false, List.nil_append, List.append_nil, List.cons_append, tupled, unz, aBuiltin, lenTd, aLen, List.getElem?_nil, touched, beq_self_eq_true, List.isEmpty_nil, Option.some.injEq, ge_iff_le, aUn, pure?, PV.cells, List.replicate, List.set_cons_zero, List.set_cons_succ, aConvert, strBin, sliceOf, bytesOf, eq_self, AV.thaw, Blk.thaw, aSlice, aNil, isNilV, aEq, plainEq, fitAll, keyFits, aMax, maxFrom, aPart, aFind, Blk.ren, Blk.refs, keyEq, aLookup, aUpdate, aEntry, aEntryStore, aDelete, List.flatMap_nil, List.flatMap_cons, gt_iff_lt, sp16_0, sp17_0, coreB.down, charsB]
  | c :: r, i, h, hl => by
    obtain ⟨h1, h2, h3⟩ := drop_cons h
    have go : chB (i == 0) c = true → charsB (i == 0) (c :: r) = charsB (i + 1 == 0) r := by
      intro h
      simp [charsB, h]
    have stop : chB (i == 0) c = false → charsB (i == 0) (c :: r) = false := by
      intro h
      simp [charsB, h]
    cases hn : letterB c.toNat with
    | true =>
      rw [go (by simp [chB, hn]), ← rname_loop s r (i + 1) h2 hl]
      refine omega_L fn17 (by rfl) ?_
      simp (disch := first | omega | exact Sure.mk (by kernel_rfl)) only [core.down, tab.down, ↓reduceIte, Nat.reduceLeDiff, Nat.reduceEqDiff, Nat.reduceLT, Nat.reduceAdd, Nat.reduceSub, Nat.reduceMul, reduceCtorEq, Nat.reducePow, needs, aop, aBin, intBin, aLoad, List.toList_toArray, avOf, pvOf, allPV, List.map, List.take, List.drop, List.length_cons, List.length_nil, List.length_map, aStore, AV.stor, AV.cells, List.append, aFieldAddr, List.getElem?_cons_zero, List.getElem?_cons_succ, subHeap, AV.refs, AV.ren, AV.rows, if_true, if_false, List.nil_append, List.append_nil, List.cons_append, tupled, unz, aBuiltin, lenTd, aLen, List.getElem?_nil, touched, beq_self_eq_true, List.isEmpty_nil, Option.some.injEq, ge_iff_le, aUn, pure?, PV.cells, List.replicate, List.set_cons_zero, List.set_cons_succ, aConvert, strBin, sliceOf, bytesOf, eq_self, AV.thaw, Blk.thaw, aSlice, aNil, isNilV, aEq, plainEq, fitAll, keyFits, aMax, maxFrom, aPart, aFind, Blk.ren, Blk.refs, keyEq, aLookup, aUpdate, aEntry, aEntryStore, aDelete, List.flatMap_nil, List.flatMap_cons, gt_iff_lt, sp16_0, sp17_0, coreB.down, h1, letter_eq, hn]
    | false =>
      by_cases h95 : (c.toNat : Int) = 95
      · rw [go (by simp [chB]; left; right; omega), ← rname_loop s r (i + 1) h2 hl]
        refine omega_L fn17 (by rfl) ?_
        simp (disch := first | omega | exact Sure.mk (by kernel_rfl)) only [core.down, tab.down, ↓reduceIte, Nat.reduceLeDiff, Nat.reduceEqDiff, Nat.reduceLT, Nat.reduceAdd, Nat.reduceSub, Nat.reduceMul, reduceCtorEq, Nat.reducePow, needs, aop, aBin, intBin, aLoad, List.toList_toArray, avOf, pvOf, allPV, List.map, List.take, List.drop, List.length_cons, List.length_nil, List.length_map, aStore, AV.stor, AV.cells, List.append, aFieldAddr, List.getElem?_cons_zero, List.getElem?_cons_succ, subHeap, AV.refs, AV.ren, AV.rows, if_true, if_false, List.nil_append, List.append_nil, List.cons_append, tupled, unz, aBuiltin, lenTd, aLen, List.getElem?_nil, touched, beq_self_eq_true, List.isEmpty_nil, Option.some.injEq, ge_iff_le, aUn, pure?, PV.cells, List.replicate, List.set_cons_zero, List.set_cons_succ, aConvert, strBin, sliceOf, bytesOf, eq_self, AV.thaw, Blk.thaw, aSlice, aNil, isNilV, aEq, plainEq, fitAll, keyFits, aMax, maxFrom, aPart, aFind, Blk.ren, Blk.refs, keyEq, aLookup, aUpdate, aEntry, aEntryStore, aDelete, List.flatMap_nil, List.flatMap_cons, gt_iff_lt, sp16_0, sp17_0, coreB.down, h1, letter_eq, hn]
      · have hch := chB_ref (i == 0) c hn h95
        by_cases hz : i = 0
        · subst hz
          rw [stop (by rw [hch]; rfl)]
          refine omega_L fn17 (by rfl) ?_
          simp (disch := first | omega | exact Sure.mk (by kernel_rfl)) only [core.down, tab.down, ↓reduceIte, Nat.reduceLeDiff, Nat.reduceEqDiff, Nat.reduceLT, Nat.reduceAdd, Nat.reduceSub, Nat.reduceMul, reduceCtorEq, Nat.reducePow, needs, aop, aBin, intBin, aLoad, List.toList_toArray, avOf, pvOf, allPV, List.map, List.take, List.drop, List.length_cons, List.length_nil, List.length_map, aStore, AV.stor, AV.cells, List.append, aFieldAddr, List.getElem?_cons_zero, List.getElem?_cons_succ, subHeap, AV.refs, AV.ren, AV.rows, if_true, if_false, List.nil_append, List.append_nil, List.cons_append, tupled, unz, aBuiltin, lenTd, aLen, List.getElem?_nil, touched, beq_self_eq_true, List.isEmpty_nil, Option.some.injEq, ge_iff_le, aUn, pure?, PV.cells, List.replicate, List.set_cons_zero, List.set_cons_succ, aConvert, strBin, sliceOf, bytesOf, eq_self, AV.thaw, Blk.thaw, aSlice, aNil, isNilV, aEq, plainEq, fitAll, keyFits, aMax, maxFrom, aPart, aFind, Blk.ren, Blk.refs, keyEq, aLookup, aUpdate, aEntry, aEntryStore, aDelete, List.flatMap_nil, List.flatMap_cons, gt_iff_lt, sp16_0, sp17_0, coreB.down, h1, letter_eq, hn, Int.natCast_zero, Int.toNat_zero]
        · have hzb : (i == 0) = false := by simpa using hz
          rw [hzb] at hch
          cases hd : digitB c.toNat with
          | true =>
            rw [go (by rw [hzb, hch, hd]; rfl), ← rname_loop s r (i + 1) h2 hl]
            refine omega_L fn17 (by rfl) ?_
            simp (disch := first | omega | exact Sure.mk (by kernel_rfl)) only [core.down, tab.down, ↓reduceIte, Nat.reduceLeDiff, Nat.reduceEqDiff, Nat.reduceLT, Nat.reduceAdd, Nat.reduceSub, Nat.reduceMul, reduceCtorEq, Nat.reducePow, needs, aop, aBin, intBin, aLoad, List.toList_toArray, avOf, pvOf, allPV, List.map, List.take, List.drop, List.length_cons, List.length_nil, List.length_map, aStore, AV.stor, AV.cells, List.append, aFieldAddr, List.getElem?_cons_zero, List.getElem?_cons_succ, subHeap, AV.refs, AV.ren, AV.rows, if_true, if_false, List.nil_append, List.append_nil, List.cons_append, tupled, unz, aBuiltin, lenTd, aLen, List.getElem?_nil, touched, beq_self_eq_true, List.isEmpty_nil, Option.some.injEq, ge_iff_le, aUn, pure?, PV.cells, List.replicate, List.set_cons_zero, List.set_cons_succ, aConvert, strBin, sliceOf, bytesOf, eq_self, AV.thaw, Blk.thaw, aSlice, aNil, isNilV, aEq, plainEq, fitAll, keyFits, aMax, maxFrom, aPart, aFind, Blk.ren, Blk.refs, keyEq, aLookup, aUpdate, aEntry, aEntryStore, aDelete, List.flatMap_nil, List.flatMap_cons, gt_iff_lt, sp16_0, sp17_0, coreB.down, h1, letter_eq, hn, digit_eq, hd]
          | false =>
            rw [stop (by rw [hzb, hch, hd]; rfl)]
            refine omega_L fn17 (by rfl) ?_
            simp (disch := first | omega | exact Sure.mk (by kernel_rfl)) only [core.down, tab.down, ↓reduceIte, Nat.reduceLeDiff, Nat.reduceEqDiff, Nat.reduceLT, Nat.reduceAdd, Nat.reduceSub, Nat.reduceMul, reduceCtorEq, Nat.reducePow, needs, aop, aBin, intBin, aLoad, List.toList_toArray, avOf, pvOf, allPV, List.map, List.take, List.drop, List.length_cons, List.length_nil, List.length_map, aStore, AV.stor, AV.cells, List.append, aFieldAddr, List.getElem?_cons_zero, List.getElem?_cons_succ, subHeap, AV.refs, AV.ren, AV.rows, if_true, if_false, List.nil_append, List.append_nil, List.cons_append, tupled, unz, aBuiltin, lenTd, aLen, List.getElem?_nil, touched, beq_self_eq_true, List.isEmpty_nil, Option.some.injEq, ge_iff_le, aUn, pure?, PV.cells, List.replicate, List.set_cons_zero, List.set_cons_succ, aConvert, strBin, sliceOf, bytesOf, eq_self, AV.thaw, Blk.thaw, aSlice, aNil, isNilV, aEq, plainEq, fitAll, keyFits, aMax, maxFrom, aPart, aFind, Blk.ren, Blk.refs, keyEq, aLookup, aUpdate, aEntry, aEntryStore, aDelete, List.flatMap_nil, List.flatMap_cons, gt_iff_lt, sp16_0, sp17_0, coreB.down, h1, letter_eq, hn, digit_eq, hd]

set_option maxRecDepth 100000 in
theorem rname_eq (s : Bytes) (hl : s.length < 2 ^ 62) : O.call 17 [.pv (.str s)] [] = some (.pv (.bool (nameB s)), []) := by
  have hL := rname_loop s s 0 rfl hl
  simp only [Int.natCast_zero, show (0 == 0) = true from rfl] at hL
  refine omega_F rfl fn17 (by rfl) (by rfl) rfl ?_
  unfold nameB
  by_cases h0 : (s.length : Int) = 0
  · have : s = [] := List.length_eq_zero_iff.1 (by omega)
    subst this
    simp (disch := first | omega | exact Sure.mk (by kernel_rfl)) only [core.down, tab.down, ↓reduceIte, Nat.reduceLeDiff, Nat.reduceEqDiff, Nat.reduceLT, Nat.reduceAdd, Nat.reduceSub, Nat.reduceMul, reduceCtorEq, Nat.reducePow, needs, aop, aBin, intBin, aLoad, List.toList_toArray, avOf, pvOf, allPV, List.map, List.take, List.drop, List.length_cons, List.length_nil, List.length_map, aStore, AV.stor, AV.cells, List.append, aFieldAddr, List.getElem?_cons_zero, List.getElem?_cons_succ, subHeap, AV.refs, AV.ren, AV.rows, if_true, if_false, List.nil_append, List.append_nil, List.cons_append, tupled, unz, aBuiltin, lenTd, aLen, List.getElem?_nil, touched, beq_self_eq_true, List.isEmpty_nil, Option.some.injEq, ge_iff_le, aUn, pure?, PV.cells, List.replicate, List.set_cons_zero, List.set_cons_succ, aConvert, strBin, sliceOf, bytesOf, eq_self, AV.thaw, Blk.thaw, aSlice, aNil, isNilV, aEq, plainEq, fitAll, keyFits, aMax, maxFrom, aPart, aFind, Blk.ren, Blk.refs, keyEq, aLookup, aUpdate, aEntry, aEntryStore, aDelete, List.flatMap_nil, List.flatMap_cons, gt_iff_lt, sp16_0, sp17_0, coreB.down]
  · have hne : s.isEmpty = false := by
      cases s with
      | nil => simp at h0
      | cons c r => rfl
    by_cases h64 : (s.length : Int) ≤ 64
    · have : decide (s.length ≤ 64) = true := by simp; omega
      rw [hne, this]
      cases hc : charsB true s
      · rw [hc] at hL
        simp (disch := first | omega | exact Sure.mk (by kernel_rfl)) only [core.down, tab.down, ↓reduceIte, Nat.reduceLeDiff, Nat.reduceEqDiff, Nat.reduceLT, Nat.reduceAdd, Nat.reduceSub, Nat.reduceMul, reduceCtorEq, Nat.reducePow, needs, aop, aBin, intBin, aLoad, List.toList_toArray, avOf, pvOf, allPV, List.map, List.take, List.drop, List.length_cons, List.length_nil, List.length_map, aStore, AV.stor, AV.cells, List.append, aFieldAddr, List.getElem?_cons_zero, List.getElem?_cons_succ, subHeap, AV.refs, AV.ren, AV.rows, if_true, if_false, List.nil_append, List.append_nil, List.cons_append, tupled, unz, aBuiltin, lenTd, aLen, List.getElem?_nil, touched, beq_self_eq_true, List.isEmpty_nil, Option.some.injEq, ge_iff_le, aUn, pure?, PV.cells, List.replicate, List.set_cons_zero, List.set_cons_succ, aConvert, strBin, sliceOf, bytesOf, eq_self, AV.thaw, Blk.thaw, aSlice, aNil, isNilV, aEq, plainEq, fitAll, keyFits, aMax, maxFrom, aPart, aFind, Blk.ren, Blk.refs, keyEq, aLookup, aUpdate, aEntry, aEntryStore, aDelete, List.flatMap_nil, List.flatMap_cons, gt_iff_lt, sp16_0, sp17_0, coreB.down, hL]
      · rw [hc] at hL
        simp (disch := first | omega | exact Sure.mk (by kernel_rfl)) only [core.down, tab.down, ↓reduceIte, Nat.reduceLeDiff, Nat.reduceEqDiff, Nat.reduceLT, Nat.reduceAdd, Nat.reduceSub, Nat.reduceMul, reduceCtorEq, Nat.reducePow, needs, aop, aBin, intBin, aLoad, List.toList_toArray, avOf, pvOf, allPV, List.map, List.take, List.drop, List.length_cons, List.length_nil, List.length_map, aStore, AV.stor, AV.cells, List.append, aFieldAddr, List.getElem?_cons_zero, List.getElem?_cons_succ, subHeap, AV.refs, AV.ren, AV.rows, if_true, if_false, List.nil_append, List.append_nil, List.cons_append, tupled, unz, aBuiltin, lenTd, aLen, List.getElem?_nil, touched, beq_self_eq_true, List.isEmpty_nil, Option.some.injEq, ge_iff_le, aUn, pure?, PV.cells, List.replicate, List.set_cons_zero, List.set_cons_succ, aConvert, strBin, sliceOf, bytesOf, eq_self, AV.thaw, Blk.thaw, aSlice, aNil, isNilV, aEq, plainEq, fitAll, keyFits, aMax, maxFrom, aPart, aFind, Blk.ren, Blk.refs, keyEq, aLookup, aUpdate, aEntry, aEntryStore, aDelete, List.flatMap_nil, List.flatMap_cons, gt_iff_lt, sp16_0, sp17_0, coreB.down, hL]
    · have : decide (s.length ≤ 64) = false := by simp; omega
      rw [hne, this]
      simp (disch := first | omega | exact Sure.mk (by kernel_rfl)) only [core.down, tab.down, ↓reduceIte, Nat.reduceLeDiff, Nat.reduceEqDiff, Nat.reduceLT, Nat.reduceAdd, Nat.reduceSub, Nat.reduceMul, reduceCtorEq, Nat.reducePow, needs, aop, aBin, intBin, aLoad, List.toList_toArray, avOf, pvOf, allPV, List.map, List.take, List.drop, List.length_cons, List.length_nil, List.length_map, aStore, AV.stor, AV.cells, List.append, aFieldAddr, List.getElem?_cons_zero, List.getElem?_cons_succ, subHeap, AV.refs, AV.ren, AV.rows, if_true, if_false, List.nil_append, List.append_nil, List.cons_append, tupled, unz, aBuiltin, lenTd, aLen, List.getElem?_nil, touched, beq_self_eq_true, List.isEmpty_nil, Option.some.injEq, ge_iff_le, aUn, pure?, PV.cells, List.replicate, List.set_cons_zero, List.set_cons_succ, aConvert, strBin, sliceOf, bytesOf, eq_self, AV.thaw, Blk.thaw, aSlice, aNil, isNilV, aEq, plainEq, fitAll, keyFits, aMax, maxFrom, aPart, aFind, Blk.ren, Blk.refs, keyEq, aLookup, aUpdate, aEntry, aEntryStore, aDelete, List.flatMap_nil, List.flatMap_cons, gt_iff_lt, sp16_0, sp17_0, coreB.down]


/-! Low -/
theorem wrap_u64 {n : Int} (h1 : 0 ≤ n) (h2 : n < 18446744073709551616) : IntKind.u64.wrap n = n := by
  simp [IntKind.wrap, IntKind.signed, IntKind.bits]
  omega

theorem wrap_u64_range (n : Int) : 0 ≤ IntKind.u64.wrap n ∧ IntKind.u64.wrap n < 18446744073709551616 := by
  simp [IntKind.wrap, IntKind.signed, IntKind.bits]
  omega

def lowI (x n : Int) : Int := IntKind.u64.wrap x % n
theorem lowI_range (x : Int) {n : Int} (h : 0 < n) : 0 ≤ lowI x n ∧ lowI x n < n := ⟨Int.emod_nonneg _ (by omega), Int.emod_lt_of_pos _ h⟩

set_option maxRecDepth 100000 in
theorem low_eq (x n : Int) (h1 : 0 < n) (h2 : n < 2 ^ 62) : O.call 15 [.pv (.int .i64 x), .pv (.int .i64 n)] [] = some (.pv (.int .i64 (lowI x n)), []) := by
  obtain ⟨r1, r2⟩ := wrap_u64_range x
  obtain ⟨l1, l2⟩ := lowI_range x h1
  have hm : (IntKind.u64.wrap x).tmod n = lowI x n := Int.tmod_eq_emod_of_nonneg r1
  have hn0 : ¬ n = 0 := by omega
  refine omega_F rfl fn15 (by rfl) (by rfl) rfl ?_
  simp (disch := first | omega | exact Sure.mk (by kernel_rfl)) only [core.down, tab.down, ↓reduceIte, Nat.reduceLeDiff, Nat.reduceEqDiff, Nat.reduceLT, Nat.reduceAdd, Nat.reduceSub, Nat.reduceMul, reduceCtorEq, Nat.reducePow, needs, aop, aBin, intBin, aLoad, List.toList_toArray, avOf, pvOf, allPV, List.map, List.take, List.drop, List.length_cons, List.length_nil, List.length_map, aStore, AV.stor, AV.cells, List.append, aFieldAddr, List.getElem?_cons_zero, List.getElem?_cons_succ, subHeap, AV.refs, AV.ren, AV.rows, if_true, if_false, List.nil_append, List.append_nil, List.cons_append, tupled, unz, aBuiltin, lenTd, aLen, List.getElem?_nil, touched, beq_self_eq_true, List.isEmpty_nil, Option.some.injEq, ge_iff_le, aUn, pure?, PV.cells, List.replicate, List.set_cons_zero, List.set_cons_succ, aConvert, strBin, sliceOf, bytesOf, eq_self, AV.thaw, Blk.thaw, aSlice, aNil, isNilV, aEq, plainEq, fitAll, keyFits, aMax, maxFrom, aPart, aFind, Blk.ren, Blk.refs, keyEq, aLookup, aUpdate, aEntry, aEntryStore, aDelete, List.flatMap_nil, List.flatMap_cons, gt_iff_lt, sp16_0, sp17_0, coreB.down, aConvert, wrap_u64, hm, hn0]

end Go.Proofs.Ytmlmgbnhaenabaa
