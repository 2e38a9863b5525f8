/-
  Trees of snippets: how many parts, how deep.
-/
import Derived.Test.YtmlmgbnhaenabaaGp
set_option linter.unusedSimpArgs false
set_option linter.unusedVariables false
namespace Go.Proofs.Ytmlmgbnhaenabaa
open Go Go.Gm
def S : Special := ⟨fun _ => none⟩
noncomputable abbrev O : Oracle := omega G S

mutual
def partsN : Snip → Nat
  | .mk _ _ _ _ _ _ _ _ _ kids => 1 + partsL kids
def partsL : List Snip → Nat
  | [] => 0
  | x :: r => partsN x + partsL r
end
theorem partsN_eq (x : Snip) : partsN x = 1 + partsL x.kids := by cases x; rfl
theorem partsL_len : ∀ l : List Snip, l.length ≤ partsL l
  | [] => by simp [partsL]
  | x :: r => by have := partsL_len r; simp [partsL, partsN_eq]; omega

set_option maxRecDepth 100000 in
theorem parts_loop (b : Bool) (xs : List Snip) (ih : ∀ x ∈ xs, ∀ b, O.call 21 [.pv (slP b 18 (x.kids.map Snip.enc))] [] = some (.pv (.int .i64 (partsL x.kids)), [])) :
    ∀ (r : List Snip) (i : Nat) (acc : Int), xs.drop i = r → xs.length < 2 ^ 62 → 0 ≤ acc → acc + partsL r < 2 ^ 62 →
      O.loop 21 0 ⟨[(3, .pv (.int .i64 acc)), (8, .pv (.sl b 18 (xs.map Snip.enc))), (9, .pv (.int .i64 xs.length)), (10, .pv (.int .i64 i))], [], 0⟩ =
        some (.normal, ⟨[(3, .pv (.int .i64 (acc + partsL r - r.length)))], [], 0⟩)
  | [], i, acc, h, hl, ha, hb => by
    have hi := drop_none h
    refine omega_L fn21 (by rfl) ?_
    have hc : ¬ ((i : Int) < (xs.length : Int)) := by omega
    simp (disch := first | omega | exact Sure.mk (by kernel_rfl)) only [core.down, tab.down, ↓reduceIte, Nat.reduceLeDiff, Nat.reduceEqDiff, Nat.reduceLT, Nat.reduceAdd, Nat.reduceSub, Nat.reduceMul, reduceCtorEq, Nat.reducePow, needs, aop, aBin, intBin, aLoad, List.toList_toArray, avOf, pvOf, allPV, List.map, List.take, List.drop, List.length_cons, List.length_nil, List.length_map, aStore, AV.stor, AV.cells, List.append, aFieldAddr, List.getElem?_cons_zero, List.getElem?_cons_succ, subHeap, AV.refs, AV.ren, AV.rows, if_true, if_false, List.nil_append, List.append_nil, List.cons_append, tupled, unz, aBuiltin, lenTd, aLen, List.getElem?_nil, touched, beq_self_eq_true, List.isEmpty_nil, Option.some.injEq, ge_iff_le, aUn, pure?, PV.cells, List.replicate, List.set_cons_zero, List.set_cons_succ, aConvert, strBin, sliceOf, bytesOf, eq_self, AV.thaw, Blk.thaw, aSlice, aNil, isNilV, aEq, plainEq, fitAll, keyFits, aMax, maxFrom, aPart, aFind, Blk.ren, Blk.refs, keyEq, aLookup, aUpdate, aEntry, aEntryStore, aDelete, List.flatMap_nil, List.flatMap_cons, gt_iff_lt, sp21_0, coreB.down, hc, partsL, Int.natCast_zero, Int.add_zero, Int.sub_zero]
  | x :: r, i, acc, h, hl, ha, hb => by
    obtain ⟨h1, h2, h3⟩ := drop_cons h
    have h4 := map_at (f := Snip.enc) h1
    simp only [partsL, partsN_eq] at hb
    have := partsL_len r
    have hc : (i : Int) < (xs.length : Int) := by omega
    have hk := ih x (List.mem_of_getElem? h1)
    rw [show acc + ((partsL (x :: r) : Nat) : Int) - ((x :: r).length : Int) = acc + partsL x.kids + partsL r - r.length by simp only [partsL, partsN_eq, List.length_cons]; omega]
    rw [← parts_loop b xs ih r (i + 1) (acc + partsL x.kids) h2 hl (by omega) (by omega)]
    refine omega_L fn21 (by rfl) ?_
    simp (disch := first | omega | exact Sure.mk (by kernel_rfl)) only [core.down, tab.down, ↓reduceIte, Nat.reduceLeDiff, Nat.reduceEqDiff, Nat.reduceLT, Nat.reduceAdd, Nat.reduceSub, Nat.reduceMul, reduceCtorEq, Nat.reducePow, needs, aop, aBin, intBin, aLoad, List.toList_toArray, avOf, pvOf, allPV, List.map, List.take, List.drop, List.length_cons, List.length_nil, List.length_map, aStore, AV.stor, AV.cells, List.append, aFieldAddr, List.getElem?_cons_zero, List.getElem?_cons_succ, subHeap, AV.refs, AV.ren, AV.rows, if_true, if_false, List.nil_append, List.append_nil, List.cons_append, tupled, unz, aBuiltin, lenTd, aLen, List.getElem?_nil, touched, beq_self_eq_true, List.isEmpty_nil, Option.some.injEq, ge_iff_le, aUn, pure?, PV.cells, List.replicate, List.set_cons_zero, List.set_cons_succ, aConvert, strBin, sliceOf, bytesOf, eq_self, AV.thaw, Blk.thaw, aSlice, aNil, isNilV, aEq, plainEq, fitAll, keyFits, aMax, maxFrom, aPart, aFind, Blk.ren, Blk.refs, keyEq, aLookup, aUpdate, aEntry, aEntryStore, aDelete, List.flatMap_nil, List.flatMap_cons, gt_iff_lt, sp21_0, coreB.down, hc, h4, Snip.enc_eq, hk]

theorem mem_parts : ∀ {l : List Snip} {x : Snip}, x ∈ l → partsL x.kids < partsL l
  | y :: r, x, h => by
    simp only [partsL, partsN_eq]
    rcases List.mem_cons.1 h with rfl | h
    · omega
    · have := mem_parts h
      omega

set_option maxRecDepth 100000 in
theorem parts_eq : ∀ (n : Nat) (b : Bool) (l : List Snip), partsL l ≤ n → n < 2 ^ 61 → O.call 21 [.pv (slP b 18 (l.map Snip.enc))] [] = some (.pv (.int .i64 (partsL l)), []) := by
  intro n
  induction n using Nat.strongRecOn with
  | _ n ih =>
  intro b l hl hn
  have hlen := partsL_len l
  have hL := parts_loop (b && (l.map Snip.enc).isEmpty) l (fun x hx b => ih (partsL x.kids) (by have := mem_parts hx; omega) b x.kids (Nat.le_refl _) (by have := mem_parts hx; omega)) l 0 l.length rfl (by omega) (by omega) (by omega)
  simp only [Int.natCast_zero] at hL
  refine omega_F rfl fn21 (by rfl) (by rfl) rfl ?_
  simp (disch := first | omega | exact Sure.mk (by kernel_rfl)) only [core.down, tab.down, ↓reduceIte, Nat.reduceLeDiff, Nat.reduceEqDiff, Nat.reduceLT, Nat.reduceAdd, Nat.reduceSub, Nat.reduceMul, reduceCtorEq, Nat.reducePow, needs, aop, aBin, intBin, aLoad, List.toList_toArray, avOf, pvOf, allPV, List.map, List.take, List.drop, List.length_cons, List.length_nil, List.length_map, aStore, AV.stor, AV.cells, List.append, aFieldAddr, List.getElem?_cons_zero, List.getElem?_cons_succ, subHeap, AV.refs, AV.ren, AV.rows, if_true, if_false, List.nil_append, List.append_nil, List.cons_append, tupled, unz, aBuiltin, lenTd, aLen, List.getElem?_nil, touched, beq_self_eq_true, List.isEmpty_nil, Option.some.injEq, ge_iff_le, aUn, pure?, PV.cells, List.replicate, List.set_cons_zero, List.set_cons_succ, aConvert, strBin, sliceOf, bytesOf, eq_self, AV.thaw, Blk.thaw, aSlice, aNil, isNilV, aEq, plainEq, fitAll, keyFits, aMax, maxFrom, aPart, aFind, Blk.ren, Blk.refs, keyEq, aLookup, aUpdate, aEntry, aEntryStore, aDelete, List.flatMap_nil, List.flatMap_cons, gt_iff_lt, sp21_0, coreB.down, hL, slP]
  rw [show (l.length : Int) + partsL l - l.length = partsL l by omega]

/-! Deep -/
mutual
def deepN : Snip → Nat
  | .mk _ _ _ has _ _ _ _ _ kids => deepL kids + (if has then 1 else 0)
def deepL : List Snip → Nat
  | [] => 0
  | x :: r => max (deepN x) (deepL r)
end
theorem deepN_eq (x : Snip) : deepN x = deepL x.kids + (if x.has then 1 else 0) := by cases x; rfl

end Go.Proofs.Ytmlmgbnhaenabaa
