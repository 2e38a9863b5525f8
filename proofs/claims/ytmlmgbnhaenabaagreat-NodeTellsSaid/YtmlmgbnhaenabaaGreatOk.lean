/-
  What the machine's calls come to: the plain functions.
-/
import Derived.Test.YtmlmgbnhaenabaaGreatOka
set_option linter.unusedSimpArgs false
set_option linter.unusedVariables false
set_option maxRecDepth 100000
namespace Go.Proofs.YtmlmgbnhaenabaaGreat
open Go Go.Gm
attribute [local go_sem] needs aop aBin intBin aLoad List.toList_toArray avOf pvOf allPV List.take List.drop List.length_cons List.length_nil List.length_map aStore AV.stor AV.cells List.append aFieldAddr List.getElem?_cons_zero List.getElem?_cons_succ subHeap AV.refs AV.ren AV.rows if_true if_false List.nil_append List.append_nil List.cons_append tupled unz aBuiltin lenTd aLen ptrRows List.getElem?_nil touched List.isEmpty_nil Option.some.injEq aUn pure? PV.cells List.replicate List.set_cons_zero List.set_cons_succ aConvert strBin sliceOf eq_self AV.thaw Blk.thaw aSlice aNil isNilV aEq plainEq fitAll keyFits aMax maxFrom aPart Blk.ren Blk.refs List.flatMap_nil List.flatMap_cons List.map_cons List.map_nil List.drop_zero Option.isSome_none Option.isNone_none Option.isSome_some Option.isNone_some
def ref20_may_L0_enc : ((Bool) ⊕ (Unit)) → Ex × St
  | .inl y => (Ex.ret, ⟨[(2, AV.pv (PV.bool y))], [], 0⟩)
  | .inr y => (Ex.normal, ⟨[(2, AV.undef)], [], 0⟩)
set_option maxHeartbeats 4000000 in
theorem ref20_may_all : (∀ p r, ref20_may p = some r → O.call 21 [AV.pv (PV.sl p.nil (szc 18 p.l) (List.map T.Snip.enc p.l))] [] = some (AV.pv (PV.bool r), [])) ∧ (∀ p r, ref20_may_L0 p = some r → O.loop 21 0 ⟨[(0, AV.pv (PV.sl p.1.nil (szc 18 p.1.l) (List.map T.Snip.enc p.1.l))), (3, AV.pv (PV.int IntKind.i64 p.2))], [], 0⟩ = some (ref20_may_L0_enc r)) ∧ (∀ p r, ref20_stop p = some r → O.call 35 [AV.pv (PV.agg (T.Snip.enc p))] [] = some (AV.pv (PV.bool r), [])) := by
  refine ref20_may.mutual_partial_correctness (fun p r => O.call 21 [AV.pv (PV.sl p.nil (szc 18 p.l) (List.map T.Snip.enc p.l))] [] = some (AV.pv (PV.bool r), [])) (fun p r => O.loop 21 0 ⟨[(0, AV.pv (PV.sl p.1.nil (szc 18 p.1.l) (List.map T.Snip.enc p.1.l))), (3, AV.pv (PV.int IntKind.i64 p.2))], [], 0⟩ = some (ref20_may_L0_enc r)) (fun p r => O.call 35 [AV.pv (PV.agg (T.Snip.enc p))] [] = some (AV.pv (PV.bool r), [])) ?_ ?_ ?_
  · intro ref20_may_L0 ih61
    rintro l r h
    try dsimp only at h ⊢
    obtain ⟨v2, h1, h⟩ := Option.bind_eq_some_iff.1 h
    have f1 := ih61 _ _ h1
    try dsimp only at f1
    try simp only [T.Snip.enc_eq, encx.down, Nat.zero_add, Nat.reduceAdd] at f1
    rcases v2 with y3 | y4
    dsimp only at h
    simp only [ref20_may_L0_enc, T.Snip.enc_eq, encx.down, Nat.zero_add, Nat.reduceAdd] at f1
    cases h
    clear ih61
    rotate_left
    dsimp only at h
    simp only [ref20_may_L0_enc, T.Snip.enc_eq, encx.down, Nat.zero_add, Nat.reduceAdd] at f1
    cases h
    clear ih61
    rotate_left
    all_goals
      refine omega_F rfl fn21 (by rfl) (by rfl) rfl ?_
      simp (disch := first | assumption | rfl | exact Sure.mk (by kernel_rfl)) only [go_sem, coreG.down, tab.down, ↓reduceIte, Nat.reduceLeDiff, Nat.reduceEqDiff, Nat.reduceLT, Nat.reduceAdd, Nat.reduceSub, Nat.reduceMul, reduceCtorEq, Nat.reducePow, sp21_0, T.Snip.enc_eq, *]
  · intro ref20_may_L0 ref20_stop ih61 ih67
    rintro ⟨l, i⟩ r h
    dsimp only at h ⊢
    by_cases h1 : (decide (i < (l.l.length : Int))) = true
    rw [if_pos h1] at h
    obtain ⟨x3, h2, h⟩ := Option.bind_eq_some_iff.1 h
    have f1 := geti_nat h2 IntKind.i64
    have f2 := geti_map T.Snip.enc h2
    try simp only [T.Snip.enc_eq, encx.down, Nat.zero_add, Nat.reduceAdd] at f2
    have f3 := geti_szcT h2 18
    by_cases g4 : ((!x3.has) && (!x3.turned)) = true
    rw [if_pos g4] at h
    rcases (by intro u0 u1; cases u0 <;> cases u1 <;> simp [Dum] : ∀ u0 u1 : Bool, (u0 && u1) = true → (u0 = true ∧ u1 = true)) (!x3.has) (!x3.turned) g4 with ⟨h4, h5⟩
    clear g4
    obtain ⟨v7, h6, h⟩ := Option.bind_eq_some_iff.1 h
    have f5 := ref20_SameForm_ok h6
    try simp only [T.Form.enc_eq, encx.down, Nat.zero_add, Nat.reduceAdd] at f5
    by_cases h8 : v7 = true
    rw [if_pos h8] at h
    by_cases h9 : (decide (x3.n ≥ (0 : Int))) = true
    rw [if_pos h9] at h
    by_cases h10 : (x3.kind == (0 : Int)) = true
    rw [if_pos h10] at h
    by_cases g6 : (((x3.kids.l.length : Int) == (0 : Int)) && ((x3.n == (0 : Int)) && (((x3.opts.l.length : Int) == (0 : Int)) && (!(x3.text == ([] : Bytes)))))) = true
    rw [if_pos g6] at h
    rcases (by intro u0 u1 u2 u3; cases u0 <;> cases u1 <;> cases u2 <;> cases u3 <;> simp [Dum] : ∀ u0 u1 u2 u3 : Bool, (u0 && (u1 && (u2 && u3))) = true → (u0 = true ∧ u1 = true ∧ u2 = true ∧ u3 = true)) ((x3.kids.l.length : Int) == (0 : Int)) (x3.n == (0 : Int)) ((x3.opts.l.length : Int) == (0 : Int)) (!(x3.text == ([] : Bytes))) g6 with ⟨h11, h12, h13, h14⟩
    clear g6
    by_cases h15 : (i == (0 : Int)) = true
    rw [if_pos h15] at h
    try simp only [h8] at f5
    have f7 := ih61 _ _ h
    try dsimp only at f7
    try simp only [T.Snip.enc_eq, encx.down, Nat.zero_add, Nat.reduceAdd] at f7
    clear h
    try simp only [h8] at f7
    clear ih61 ih67
    rotate_left
    rw [if_neg h15] at h; replace h15 := Bool.eq_false_iff.2 h15
    obtain ⟨x17, h16, h⟩ := Option.bind_eq_some_iff.1 h
    have f8 := geti_nat h16 IntKind.i64
    have f9 := geti_map T.Snip.enc h16
    try simp only [T.Snip.enc_eq, encx.down, Nat.zero_add, Nat.reduceAdd] at f9
    have f10 := geti_szcT h16 18
    by_cases h18 : (!(x17.kind != (0 : Int))) = true
    rw [if_pos h18] at h
    try simp only [h8] at f5
    cases h
    show _ = some (ref20_may_L0_enc (.inl _))
    dsimp only [ref20_may_L0_enc]
    clear ih61 ih67
    rotate_left
    rw [if_neg h18] at h; replace h18 := Bool.eq_false_iff.2 h18
    try simp only [h8] at f5
    have f11 := ih61 _ _ h
    try dsimp only at f11
    try simp only [T.Snip.enc_eq, encx.down, Nat.zero_add, Nat.reduceAdd] at f11
    clear h
    try simp only [h8] at f11
    clear ih61 ih67
    rotate_left
    focus
      rw [if_neg g6] at h; replace g6 := Bool.eq_false_iff.2 g6
      rcases (by intro u0 u1 u2 u3; cases u0 <;> cases u1 <;> cases u2 <;> cases u3 <;> simp [Dum] : ∀ u0 u1 u2 u3 : Bool, (u0 && (u1 && (u2 && u3))) = false → (u0 = false ∧ Dum ∧ Dum ∧ Dum) ∨ (u0 = true ∧ u1 = false ∧ Dum ∧ Dum) ∨ (u0 = true ∧ u1 = true ∧ u2 = false ∧ Dum) ∨ (u0 = true ∧ u1 = true ∧ u2 = true ∧ u3 = false)) ((x3.kids.l.length : Int) == (0 : Int)) (x3.n == (0 : Int)) ((x3.opts.l.length : Int) == (0 : Int)) (!(x3.text == ([] : Bytes))) g6 with ⟨h11, h12, h13, h14⟩ | ⟨h11, h12, h13, h14⟩ | ⟨h11, h12, h13, h14⟩ | ⟨h11, h12, h13, h14⟩
      clear g6
      all_goals
        try simp only [h8] at f5
        cases h
        show _ = some (ref20_may_L0_enc (.inl _))
        dsimp only [ref20_may_L0_enc]
        clear ih61 ih67
        rotate_left
    rotate_left 4
    rw [if_neg h10] at h; replace h10 := Bool.eq_false_iff.2 h10
    by_cases h19 : (x3.kind == (1 : Int)) = true
    rw [if_pos h19] at h
    by_cases g12 : ((decide (x3.n ≤ (9999 : Int))) && (x3.text == ([] : Bytes))) = true
    rw [if_pos g12] at h
    rcases (by intro u0 u1; cases u0 <;> cases u1 <;> simp [Dum] : ∀ u0 u1 : Bool, (u0 && u1) = true → (u0 = true ∧ u1 = true)) (decide (x3.n ≤ (9999 : Int))) (x3.text == ([] : Bytes)) g12 with ⟨h20, h21⟩
    clear g12
    obtain ⟨v23, h22, h⟩ := Option.bind_eq_some_iff.1 h
    have f13 := ih67 _ _ h22
    try dsimp only at f13
    try simp only [T.Snip.enc_eq, encx.down, Nat.zero_add, Nat.reduceAdd] at f13
    by_cases h24 : (!v23) = true
    rw [if_pos h24] at h
    try simp only [h8] at f5 f13
    cases h
    show _ = some (ref20_may_L0_enc (.inl _))
    dsimp only [ref20_may_L0_enc]
    clear ih61 ih67
    rotate_left
    rw [if_neg h24] at h; replace h24 := Bool.eq_false_iff.2 h24
    try simp only [h8] at f5 f13
    have f14 := ih61 _ _ h
    try dsimp only at f14
    try simp only [T.Snip.enc_eq, encx.down, Nat.zero_add, Nat.reduceAdd] at f14
    clear h
    try simp only [h8] at f14
    clear ih61 ih67
    rotate_left
    focus
      rw [if_neg g12] at h; replace g12 := Bool.eq_false_iff.2 g12
      rcases (by intro u0 u1; cases u0 <;> cases u1 <;> simp [Dum] : ∀ u0 u1 : Bool, (u0 && u1) = false → (u0 = false ∧ Dum) ∨ (u0 = true ∧ u1 = false)) (decide (x3.n ≤ (9999 : Int))) (x3.text == ([] : Bytes)) g12 with ⟨h20, h21⟩ | ⟨h20, h21⟩
      clear g12
      all_goals
        try simp only [h8] at f5
        cases h
        show _ = some (ref20_may_L0_enc (.inl _))
        dsimp only [ref20_may_L0_enc]
        clear ih61 ih67
        rotate_left
    rotate_left 2
    rw [if_neg h19] at h; replace h19 := Bool.eq_false_iff.2 h19
    by_cases h25 : (x3.kind == (2 : Int)) = true
    rw [if_pos h25] at h
    by_cases g15 : ((decide (x3.n ≤ (9999 : Int))) && ((x3.text == ([] : Bytes)) && ((x3.kids.l.length : Int) == (0 : Int)))) = true
    rw [if_pos g15] at h
    rcases (by intro u0 u1 u2; cases u0 <;> cases u1 <;> cases u2 <;> simp [Dum] : ∀ u0 u1 u2 : Bool, (u0 && (u1 && u2)) = true → (u0 = true ∧ u1 = true ∧ u2 = true)) (decide (x3.n ≤ (9999 : Int))) (x3.text == ([] : Bytes)) ((x3.kids.l.length : Int) == (0 : Int)) g15 with ⟨h26, h27, h28⟩
    clear g15
    by_cases h29 : (!(decide ((x3.opts.l.length : Int) > (0 : Int)))) = true
    rw [if_pos h29] at h
    try simp only [h8] at f5
    cases h
    show _ = some (ref20_may_L0_enc (.inl _))
    dsimp only [ref20_may_L0_enc]
    clear ih61 ih67
    rotate_left
    rw [if_neg h29] at h; replace h29 := Bool.eq_false_iff.2 h29
    try simp only [h8] at f5
    have f16 := ih61 _ _ h
    try dsimp only at f16
    try simp only [T.Snip.enc_eq, encx.down, Nat.zero_add, Nat.reduceAdd] at f16
    clear h
    try simp only [h8] at f16
    clear ih61 ih67
    rotate_left
    focus
      rw [if_neg g15] at h; replace g15 := Bool.eq_false_iff.2 g15
      rcases (by intro u0 u1 u2; cases u0 <;> cases u1 <;> cases u2 <;> simp [Dum] : ∀ u0 u1 u2 : Bool, (u0 && (u1 && u2)) = false → (u0 = false ∧ Dum ∧ Dum) ∨ (u0 = true ∧ u1 = false ∧ Dum) ∨ (u0 = true ∧ u1 = true ∧ u2 = false)) (decide (x3.n ≤ (9999 : Int))) (x3.text == ([] : Bytes)) ((x3.kids.l.length : Int) == (0 : Int)) g15 with ⟨h26, h27, h28⟩ | ⟨h26, h27, h28⟩ | ⟨h26, h27, h28⟩
      clear g15
      all_goals
        try simp only [h8] at f5
        cases h
        show _ = some (ref20_may_L0_enc (.inl _))
        dsimp only [ref20_may_L0_enc]
        clear ih61 ih67
        rotate_left
    rotate_left 3
    rw [if_neg h25] at h; replace h25 := Bool.eq_false_iff.2 h25
    by_cases g17 : ((x3.kind == (3 : Int)) && (x3.n == (0 : Int))) = true
    rw [if_pos g17] at h
    rcases (by intro u0 u1; cases u0 <;> cases u1 <;> simp [Dum] : ∀ u0 u1 : Bool, (u0 && u1) = true → (u0 = true ∧ u1 = true)) (x3.kind == (3 : Int)) (x3.n == (0 : Int)) g17 with ⟨h30, h31⟩
    clear g17
    obtain ⟨v33, h32, h⟩ := Option.bind_eq_some_iff.1 h
    have f18 := ref20_Name_ok h32
    try simp only [encx.down, Nat.zero_add, Nat.reduceAdd] at f18
    by_cases h34 : v33 = true
    rw [if_pos h34] at h
    obtain ⟨v36, h35, h⟩ := Option.bind_eq_some_iff.1 h
    have f19 := ih67 _ _ h35
    try dsimp only at f19
    try simp only [T.Snip.enc_eq, encx.down, Nat.zero_add, Nat.reduceAdd] at f19
    by_cases h37 : (!v36) = true
    rw [if_pos h37] at h
    try simp only [h8, h34] at f5 f18 f19
    cases h
    show _ = some (ref20_may_L0_enc (.inl _))
    dsimp only [ref20_may_L0_enc]
    clear ih61 ih67
    rotate_left
    rw [if_neg h37] at h; replace h37 := Bool.eq_false_iff.2 h37
    try simp only [h8, h34] at f5 f18 f19
    have f20 := ih61 _ _ h
    try dsimp only at f20
    try simp only [T.Snip.enc_eq, encx.down, Nat.zero_add, Nat.reduceAdd] at f20
    clear h
    try simp only [h8, h34] at f20
    clear ih61 ih67
    rotate_left
    rw [if_neg h34] at h; replace h34 := Bool.eq_false_iff.2 h34
    try simp only [h8, h34] at f5 f18
    cases h
    show _ = some (ref20_may_L0_enc (.inl _))
    dsimp only [ref20_may_L0_enc]
    clear ih61 ih67
    rotate_left
    focus
      rw [if_neg g17] at h; replace g17 := Bool.eq_false_iff.2 g17
      rcases (by intro u0 u1; cases u0 <;> cases u1 <;> simp [Dum] : ∀ u0 u1 : Bool, (u0 && u1) = false → (u0 = false ∧ Dum) ∨ (u0 = true ∧ u1 = false)) (x3.kind == (3 : Int)) (x3.n == (0 : Int)) g17 with ⟨h30, h31⟩ | ⟨h30, h31⟩
      clear g17
      all_goals
        try simp only [h8] at f5
        cases h
        show _ = some (ref20_may_L0_enc (.inl _))
        dsimp only [ref20_may_L0_enc]
        clear ih61 ih67
        rotate_left
    rotate_left 2
    rw [if_neg h9] at h; replace h9 := Bool.eq_false_iff.2 h9
    by_cases h38 : (x3.kind == (0 : Int)) = true
    rw [if_pos h38] at h
    by_cases g21 : (((x3.kids.l.length : Int) == (0 : Int)) && ((x3.n == (0 : Int)) && (((x3.opts.l.length : Int) == (0 : Int)) && (!(x3.text == ([] : Bytes)))))) = true
    rw [if_pos g21] at h
    rcases (by intro u0 u1 u2 u3; cases u0 <;> cases u1 <;> cases u2 <;> cases u3 <;> simp [Dum] : ∀ u0 u1 u2 u3 : Bool, (u0 && (u1 && (u2 && u3))) = true → (u0 = true ∧ u1 = true ∧ u2 = true ∧ u3 = true)) ((x3.kids.l.length : Int) == (0 : Int)) (x3.n == (0 : Int)) ((x3.opts.l.length : Int) == (0 : Int)) (!(x3.text == ([] : Bytes))) g21 with ⟨h39, h40, h41, h42⟩
    clear g21
    by_cases h43 : (i == (0 : Int)) = true
    rw [if_pos h43] at h
    try simp only [h8] at f5
    have f22 := ih61 _ _ h
    try dsimp only at f22
    try simp only [T.Snip.enc_eq, encx.down, Nat.zero_add, Nat.reduceAdd] at f22
    clear h
    try simp only [h8] at f22
    clear ih61 ih67
    rotate_left
    rw [if_neg h43] at h; replace h43 := Bool.eq_false_iff.2 h43
    obtain ⟨x45, h44, h⟩ := Option.bind_eq_some_iff.1 h
    have f23 := geti_nat h44 IntKind.i64
    have f24 := geti_map T.Snip.enc h44
    try simp only [T.Snip.enc_eq, encx.down, Nat.zero_add, Nat.reduceAdd] at f24
    have f25 := geti_szcT h44 18
    by_cases h46 : (!(x45.kind != (0 : Int))) = true
    rw [if_pos h46] at h
    try simp only [h8] at f5
    cases h
    show _ = some (ref20_may_L0_enc (.inl _))
    dsimp only [ref20_may_L0_enc]
    clear ih61 ih67
    rotate_left
    rw [if_neg h46] at h; replace h46 := Bool.eq_false_iff.2 h46
    try simp only [h8] at f5
    have f26 := ih61 _ _ h
    try dsimp only at f26
    try simp only [T.Snip.enc_eq, encx.down, Nat.zero_add, Nat.reduceAdd] at f26
    clear h
    try simp only [h8] at f26
    clear ih61 ih67
    rotate_left
    focus
      rw [if_neg g21] at h; replace g21 := Bool.eq_false_iff.2 g21
      rcases (by intro u0 u1 u2 u3; cases u0 <;> cases u1 <;> cases u2 <;> cases u3 <;> simp [Dum] : ∀ u0 u1 u2 u3 : Bool, (u0 && (u1 && (u2 && u3))) = false → (u0 = false ∧ Dum ∧ Dum ∧ Dum) ∨ (u0 = true ∧ u1 = false ∧ Dum ∧ Dum) ∨ (u0 = true ∧ u1 = true ∧ u2 = false ∧ Dum) ∨ (u0 = true ∧ u1 = true ∧ u2 = true ∧ u3 = false)) ((x3.kids.l.length : Int) == (0 : Int)) (x3.n == (0 : Int)) ((x3.opts.l.length : Int) == (0 : Int)) (!(x3.text == ([] : Bytes))) g21 with ⟨h39, h40, h41, h42⟩ | ⟨h39, h40, h41, h42⟩ | ⟨h39, h40, h41, h42⟩ | ⟨h39, h40, h41, h42⟩
      clear g21
      all_goals
        try simp only [h8] at f5
        cases h
        show _ = some (ref20_may_L0_enc (.inl _))
        dsimp only [ref20_may_L0_enc]
        clear ih61 ih67
        rotate_left
    rotate_left 4
    rw [if_neg h38] at h; replace h38 := Bool.eq_false_iff.2 h38
    by_cases g27 : ((x3.kind == (1 : Int)) || (x3.kind == (2 : Int))) = true
    focus
      rw [if_pos g27] at h
      rcases (by intro u0 u1; cases u0 <;> cases u1 <;> simp [Dum] : ∀ u0 u1 : Bool, (u0 || u1) = true → (u0 = true ∧ Dum) ∨ (u0 = false ∧ u1 = true)) (x3.kind == (1 : Int)) (x3.kind == (2 : Int)) g27 with ⟨h47, h48⟩ | ⟨h47, h48⟩
      clear g27
      all_goals
        try simp only [h8] at f5
        cases h
        show _ = some (ref20_may_L0_enc (.inl _))
        dsimp only [ref20_may_L0_enc]
        clear ih61 ih67
        rotate_left
    rotate_left 2
    rw [if_neg g27] at h; replace g27 := Bool.eq_false_iff.2 g27
    rcases (by intro u0 u1; cases u0 <;> cases u1 <;> simp [Dum] : ∀ u0 u1 : Bool, (u0 || u1) = false → (u0 = false ∧ u1 = false)) (x3.kind == (1 : Int)) (x3.kind == (2 : Int)) g27 with ⟨h47, h48⟩
    clear g27
    by_cases g28 : ((x3.kind == (3 : Int)) && (x3.n == (0 : Int))) = true
    rw [if_pos g28] at h
    rcases (by intro u0 u1; cases u0 <;> cases u1 <;> simp [Dum] : ∀ u0 u1 : Bool, (u0 && u1) = true → (u0 = true ∧ u1 = true)) (x3.kind == (3 : Int)) (x3.n == (0 : Int)) g28 with ⟨h49, h50⟩
    clear g28
    obtain ⟨v52, h51, h⟩ := Option.bind_eq_some_iff.1 h
    have f29 := ref20_Name_ok h51
    try simp only [encx.down, Nat.zero_add, Nat.reduceAdd] at f29
    by_cases h53 : v52 = true
    rw [if_pos h53] at h
    obtain ⟨v55, h54, h⟩ := Option.bind_eq_some_iff.1 h
    have f30 := ih67 _ _ h54
    try dsimp only at f30
    try simp only [T.Snip.enc_eq, encx.down, Nat.zero_add, Nat.reduceAdd] at f30
    by_cases h56 : (!v55) = true
    rw [if_pos h56] at h
    try simp only [h8, h53] at f5 f29 f30
    cases h
    show _ = some (ref20_may_L0_enc (.inl _))
    dsimp only [ref20_may_L0_enc]
    clear ih61 ih67
    rotate_left
    rw [if_neg h56] at h; replace h56 := Bool.eq_false_iff.2 h56
    try simp only [h8, h53] at f5 f29 f30
    have f31 := ih61 _ _ h
    try dsimp only at f31
    try simp only [T.Snip.enc_eq, encx.down, Nat.zero_add, Nat.reduceAdd] at f31
    clear h
    try simp only [h8, h53] at f31
    clear ih61 ih67
    rotate_left
    rw [if_neg h53] at h; replace h53 := Bool.eq_false_iff.2 h53
    try simp only [h8, h53] at f5 f29
    cases h
    show _ = some (ref20_may_L0_enc (.inl _))
    dsimp only [ref20_may_L0_enc]
    clear ih61 ih67
    rotate_left
    focus
      rw [if_neg g28] at h; replace g28 := Bool.eq_false_iff.2 g28
      rcases (by intro u0 u1; cases u0 <;> cases u1 <;> simp [Dum] : ∀ u0 u1 : Bool, (u0 && u1) = false → (u0 = false ∧ Dum) ∨ (u0 = true ∧ u1 = false)) (x3.kind == (3 : Int)) (x3.n == (0 : Int)) g28 with ⟨h49, h50⟩ | ⟨h49, h50⟩
      clear g28
      all_goals
        try simp only [h8] at f5
        cases h
        show _ = some (ref20_may_L0_enc (.inl _))
        dsimp only [ref20_may_L0_enc]
        clear ih61 ih67
        rotate_left
    rotate_left 2
    rw [if_neg h8] at h; replace h8 := Bool.eq_false_iff.2 h8
    by_cases h57 : (decide (x3.n ≥ (0 : Int))) = true
    rw [if_pos h57] at h
    by_cases h58 : (x3.kind == (0 : Int)) = true
    rw [if_pos h58] at h
    try simp only [h8] at f5
    cases h
    show _ = some (ref20_may_L0_enc (.inl _))
    dsimp only [ref20_may_L0_enc]
    clear ih61 ih67
    rotate_left
    rw [if_neg h58] at h; replace h58 := Bool.eq_false_iff.2 h58
    by_cases h59 : (x3.kind == (1 : Int)) = true
    rw [if_pos h59] at h
    by_cases g32 : ((decide (x3.n ≤ (9999 : Int))) && (x3.text == ([] : Bytes))) = true
    rw [if_pos g32] at h
    rcases (by intro u0 u1; cases u0 <;> cases u1 <;> simp [Dum] : ∀ u0 u1 : Bool, (u0 && u1) = true → (u0 = true ∧ u1 = true)) (decide (x3.n ≤ (9999 : Int))) (x3.text == ([] : Bytes)) g32 with ⟨h60, h61⟩
    clear g32
    obtain ⟨v63, h62, h⟩ := Option.bind_eq_some_iff.1 h
    have f33 := ih67 _ _ h62
    try dsimp only at f33
    try simp only [T.Snip.enc_eq, encx.down, Nat.zero_add, Nat.reduceAdd] at f33
    by_cases h64 : (!v63) = true
    rw [if_pos h64] at h
    try simp only [h8] at f5 f33
    cases h
    show _ = some (ref20_may_L0_enc (.inl _))
    dsimp only [ref20_may_L0_enc]
    clear ih61 ih67
    rotate_left
    rw [if_neg h64] at h; replace h64 := Bool.eq_false_iff.2 h64
    try simp only [h8] at f5 f33
    have f34 := ih61 _ _ h
    try dsimp only at f34
    try simp only [T.Snip.enc_eq, encx.down, Nat.zero_add, Nat.reduceAdd] at f34
    clear h
    try simp only [h8] at f34
    clear ih61 ih67
    rotate_left
    focus
      rw [if_neg g32] at h; replace g32 := Bool.eq_false_iff.2 g32
      rcases (by intro u0 u1; cases u0 <;> cases u1 <;> simp [Dum] : ∀ u0 u1 : Bool, (u0 && u1) = false → (u0 = false ∧ Dum) ∨ (u0 = true ∧ u1 = false)) (decide (x3.n ≤ (9999 : Int))) (x3.text == ([] : Bytes)) g32 with ⟨h60, h61⟩ | ⟨h60, h61⟩
      clear g32
      all_goals
        try simp only [h8] at f5
        cases h
        show _ = some (ref20_may_L0_enc (.inl _))
        dsimp only [ref20_may_L0_enc]
        clear ih61 ih67
        rotate_left
    rotate_left 2
    rw [if_neg h59] at h; replace h59 := Bool.eq_false_iff.2 h59
    by_cases h65 : (x3.kind == (2 : Int)) = true
    rw [if_pos h65] at h
    by_cases g35 : ((decide (x3.n ≤ (9999 : Int))) && (x3.text == ([] : Bytes))) = true
    rw [if_pos g35] at h
    rcases (by intro u0 u1; cases u0 <;> cases u1 <;> simp [Dum] : ∀ u0 u1 : Bool, (u0 && u1) = true → (u0 = true ∧ u1 = true)) (decide (x3.n ≤ (9999 : Int))) (x3.text == ([] : Bytes)) g35 with ⟨h66, h67⟩
    clear g35
    try simp only [h8] at f5
    cases h
    show _ = some (ref20_may_L0_enc (.inl _))
    dsimp only [ref20_may_L0_enc]
    clear ih61 ih67
    rotate_left
    focus
      rw [if_neg g35] at h; replace g35 := Bool.eq_false_iff.2 g35
      rcases (by intro u0 u1; cases u0 <;> cases u1 <;> simp [Dum] : ∀ u0 u1 : Bool, (u0 && u1) = false → (u0 = false ∧ Dum) ∨ (u0 = true ∧ u1 = false)) (decide (x3.n ≤ (9999 : Int))) (x3.text == ([] : Bytes)) g35 with ⟨h66, h67⟩ | ⟨h66, h67⟩
      clear g35
      all_goals
        try simp only [h8] at f5
        cases h
        show _ = some (ref20_may_L0_enc (.inl _))
        dsimp only [ref20_may_L0_enc]
        clear ih61 ih67
        rotate_left
    rotate_left 2
    rw [if_neg h65] at h; replace h65 := Bool.eq_false_iff.2 h65
    by_cases g36 : ((x3.kind == (3 : Int)) && (x3.n == (0 : Int))) = true
    rw [if_pos g36] at h
    rcases (by intro u0 u1; cases u0 <;> cases u1 <;> simp [Dum] : ∀ u0 u1 : Bool, (u0 && u1) = true → (u0 = true ∧ u1 = true)) (x3.kind == (3 : Int)) (x3.n == (0 : Int)) g36 with ⟨h68, h69⟩
    clear g36
    obtain ⟨v71, h70, h⟩ := Option.bind_eq_some_iff.1 h
    have f37 := ref20_Name_ok h70
    try simp only [encx.down, Nat.zero_add, Nat.reduceAdd] at f37
    by_cases h72 : v71 = true
    rw [if_pos h72] at h
    obtain ⟨v74, h73, h⟩ := Option.bind_eq_some_iff.1 h
    have f38 := ih67 _ _ h73
    try dsimp only at f38
    try simp only [T.Snip.enc_eq, encx.down, Nat.zero_add, Nat.reduceAdd] at f38
    by_cases h75 : (!v74) = true
    rw [if_pos h75] at h
    try simp only [h8, h72] at f5 f37 f38
    cases h
    show _ = some (ref20_may_L0_enc (.inl _))
    dsimp only [ref20_may_L0_enc]
    clear ih61 ih67
    rotate_left
    rw [if_neg h75] at h; replace h75 := Bool.eq_false_iff.2 h75
    try simp only [h8, h72] at f5 f37 f38
    have f39 := ih61 _ _ h
    try dsimp only at f39
    try simp only [T.Snip.enc_eq, encx.down, Nat.zero_add, Nat.reduceAdd] at f39
    clear h
    try simp only [h8, h72] at f39
    clear ih61 ih67
    rotate_left
    rw [if_neg h72] at h; replace h72 := Bool.eq_false_iff.2 h72
    try simp only [h8, h72] at f5 f37
    cases h
    show _ = some (ref20_may_L0_enc (.inl _))
    dsimp only [ref20_may_L0_enc]
    clear ih61 ih67
    rotate_left
    focus
      rw [if_neg g36] at h; replace g36 := Bool.eq_false_iff.2 g36
      rcases (by intro u0 u1; cases u0 <;> cases u1 <;> simp [Dum] : ∀ u0 u1 : Bool, (u0 && u1) = false → (u0 = false ∧ Dum) ∨ (u0 = true ∧ u1 = false)) (x3.kind == (3 : Int)) (x3.n == (0 : Int)) g36 with ⟨h68, h69⟩ | ⟨h68, h69⟩
      clear g36
      all_goals
        try simp only [h8] at f5
        cases h
        show _ = some (ref20_may_L0_enc (.inl _))
        dsimp only [ref20_may_L0_enc]
        clear ih61 ih67
        rotate_left
    rotate_left 2
    rw [if_neg h57] at h; replace h57 := Bool.eq_false_iff.2 h57
    by_cases g40 : ((x3.kind == (0 : Int)) || ((x3.kind == (1 : Int)) || (x3.kind == (2 : Int)))) = true
    focus
      rw [if_pos g40] at h
      rcases (by intro u0 u1 u2; cases u0 <;> cases u1 <;> cases u2 <;> simp [Dum] : ∀ u0 u1 u2 : Bool, (u0 || (u1 || u2)) = true → (u0 = true ∧ Dum ∧ Dum) ∨ (u0 = false ∧ u1 = true ∧ Dum) ∨ (u0 = false ∧ u1 = false ∧ u2 = true)) (x3.kind == (0 : Int)) (x3.kind == (1 : Int)) (x3.kind == (2 : Int)) g40 with ⟨h76, h77, h78⟩ | ⟨h76, h77, h78⟩ | ⟨h76, h77, h78⟩
      clear g40
      all_goals
        try simp only [h8] at f5
        cases h
        show _ = some (ref20_may_L0_enc (.inl _))
        dsimp only [ref20_may_L0_enc]
        clear ih61 ih67
        rotate_left
    rotate_left 3
    rw [if_neg g40] at h; replace g40 := Bool.eq_false_iff.2 g40
    rcases (by intro u0 u1 u2; cases u0 <;> cases u1 <;> cases u2 <;> simp [Dum] : ∀ u0 u1 u2 : Bool, (u0 || (u1 || u2)) = false → (u0 = false ∧ u1 = false ∧ u2 = false)) (x3.kind == (0 : Int)) (x3.kind == (1 : Int)) (x3.kind == (2 : Int)) g40 with ⟨h76, h77, h78⟩
    clear g40
    by_cases g41 : ((x3.kind == (3 : Int)) && (x3.n == (0 : Int))) = true
    rw [if_pos g41] at h
    rcases (by intro u0 u1; cases u0 <;> cases u1 <;> simp [Dum] : ∀ u0 u1 : Bool, (u0 && u1) = true → (u0 = true ∧ u1 = true)) (x3.kind == (3 : Int)) (x3.n == (0 : Int)) g41 with ⟨h79, h80⟩
    clear g41
    obtain ⟨v82, h81, h⟩ := Option.bind_eq_some_iff.1 h
    have f42 := ref20_Name_ok h81
    try simp only [encx.down, Nat.zero_add, Nat.reduceAdd] at f42
    by_cases h83 : v82 = true
    rw [if_pos h83] at h
    obtain ⟨v85, h84, h⟩ := Option.bind_eq_some_iff.1 h
    have f43 := ih67 _ _ h84
    try dsimp only at f43
    try simp only [T.Snip.enc_eq, encx.down, Nat.zero_add, Nat.reduceAdd] at f43
    by_cases h86 : (!v85) = true
    rw [if_pos h86] at h
    try simp only [h8, h83] at f5 f42 f43
    cases h
    show _ = some (ref20_may_L0_enc (.inl _))
    dsimp only [ref20_may_L0_enc]
    clear ih61 ih67
    rotate_left
    rw [if_neg h86] at h; replace h86 := Bool.eq_false_iff.2 h86
    try simp only [h8, h83] at f5 f42 f43
    have f44 := ih61 _ _ h
    try dsimp only at f44
    try simp only [T.Snip.enc_eq, encx.down, Nat.zero_add, Nat.reduceAdd] at f44
    clear h
    try simp only [h8, h83] at f44
    clear ih61 ih67
    rotate_left
    rw [if_neg h83] at h; replace h83 := Bool.eq_false_iff.2 h83
    try simp only [h8, h83] at f5 f42
    cases h
    show _ = some (ref20_may_L0_enc (.inl _))
    dsimp only [ref20_may_L0_enc]
    clear ih61 ih67
    rotate_left
    focus
      rw [if_neg g41] at h; replace g41 := Bool.eq_false_iff.2 g41
      rcases (by intro u0 u1; cases u0 <;> cases u1 <;> simp [Dum] : ∀ u0 u1 : Bool, (u0 && u1) = false → (u0 = false ∧ Dum) ∨ (u0 = true ∧ u1 = false)) (x3.kind == (3 : Int)) (x3.n == (0 : Int)) g41 with ⟨h79, h80⟩ | ⟨h79, h80⟩
      clear g41
      all_goals
        try simp only [h8] at f5
        cases h
        show _ = some (ref20_may_L0_enc (.inl _))
        dsimp only [ref20_may_L0_enc]
        clear ih61 ih67
        rotate_left
    rotate_left 2
    focus
      rw [if_neg g4] at h; replace g4 := Bool.eq_false_iff.2 g4
      rcases (by intro u0 u1; cases u0 <;> cases u1 <;> simp [Dum] : ∀ u0 u1 : Bool, (u0 && u1) = false → (u0 = false ∧ Dum) ∨ (u0 = true ∧ u1 = false)) (!x3.has) (!x3.turned) g4 with ⟨h4, h5⟩ | ⟨h4, h5⟩
      clear g4
      all_goals
        by_cases h117 : (decide (x3.n ≥ (0 : Int))) = true
        rw [if_pos h117] at h
        by_cases h118 : (x3.kind == (0 : Int)) = true
        rw [if_pos h118] at h
        cases h
        show _ = some (ref20_may_L0_enc (.inl _))
        dsimp only [ref20_may_L0_enc]
        clear ih61 ih67
        rotate_left
        rw [if_neg h118] at h; replace h118 := Bool.eq_false_iff.2 h118
        by_cases h119 : (x3.kind == (1 : Int)) = true
        rw [if_pos h119] at h
        by_cases g45 : ((decide (x3.n ≤ (9999 : Int))) && (x3.text == ([] : Bytes))) = true
        rw [if_pos g45] at h
        rcases (by intro u0 u1; cases u0 <;> cases u1 <;> simp [Dum] : ∀ u0 u1 : Bool, (u0 && u1) = true → (u0 = true ∧ u1 = true)) (decide (x3.n ≤ (9999 : Int))) (x3.text == ([] : Bytes)) g45 with ⟨h120, h121⟩
        clear g45
        obtain ⟨v123, h122, h⟩ := Option.bind_eq_some_iff.1 h
        have f46 := ih67 _ _ h122
        try dsimp only at f46
        try simp only [T.Snip.enc_eq, encx.down, Nat.zero_add, Nat.reduceAdd] at f46
        by_cases h124 : (!v123) = true
        rw [if_pos h124] at h
        cases h
        show _ = some (ref20_may_L0_enc (.inl _))
        dsimp only [ref20_may_L0_enc]
        clear ih61 ih67
        rotate_left
        rw [if_neg h124] at h; replace h124 := Bool.eq_false_iff.2 h124
        have f47 := ih61 _ _ h
        try dsimp only at f47
        try simp only [T.Snip.enc_eq, encx.down, Nat.zero_add, Nat.reduceAdd] at f47
        clear h
        clear ih61 ih67
        rotate_left
        focus
          rw [if_neg g45] at h; replace g45 := Bool.eq_false_iff.2 g45
          rcases (by intro u0 u1; cases u0 <;> cases u1 <;> simp [Dum] : ∀ u0 u1 : Bool, (u0 && u1) = false → (u0 = false ∧ Dum) ∨ (u0 = true ∧ u1 = false)) (decide (x3.n ≤ (9999 : Int))) (x3.text == ([] : Bytes)) g45 with ⟨h120, h121⟩ | ⟨h120, h121⟩
          clear g45
          all_goals
            cases h
            show _ = some (ref20_may_L0_enc (.inl _))
            dsimp only [ref20_may_L0_enc]
            clear ih61 ih67
            rotate_left
        rotate_left 2
        rw [if_neg h119] at h; replace h119 := Bool.eq_false_iff.2 h119
        by_cases h125 : (x3.kind == (2 : Int)) = true
        rw [if_pos h125] at h
        by_cases g48 : ((decide (x3.n ≤ (9999 : Int))) && (x3.text == ([] : Bytes))) = true
        rw [if_pos g48] at h
        rcases (by intro u0 u1; cases u0 <;> cases u1 <;> simp [Dum] : ∀ u0 u1 : Bool, (u0 && u1) = true → (u0 = true ∧ u1 = true)) (decide (x3.n ≤ (9999 : Int))) (x3.text == ([] : Bytes)) g48 with ⟨h126, h127⟩
        clear g48
        cases h
        show _ = some (ref20_may_L0_enc (.inl _))
        dsimp only [ref20_may_L0_enc]
        clear ih61 ih67
        rotate_left
        focus
          rw [if_neg g48] at h; replace g48 := Bool.eq_false_iff.2 g48
          rcases (by intro u0 u1; cases u0 <;> cases u1 <;> simp [Dum] : ∀ u0 u1 : Bool, (u0 && u1) = false → (u0 = false ∧ Dum) ∨ (u0 = true ∧ u1 = false)) (decide (x3.n ≤ (9999 : Int))) (x3.text == ([] : Bytes)) g48 with ⟨h126, h127⟩ | ⟨h126, h127⟩
          clear g48
          all_goals
            cases h
            show _ = some (ref20_may_L0_enc (.inl _))
            dsimp only [ref20_may_L0_enc]
            clear ih61 ih67
            rotate_left
        rotate_left 2
        rw [if_neg h125] at h; replace h125 := Bool.eq_false_iff.2 h125
        by_cases g49 : ((x3.kind == (3 : Int)) && (x3.n == (0 : Int))) = true
        rw [if_pos g49] at h
        rcases (by intro u0 u1; cases u0 <;> cases u1 <;> simp [Dum] : ∀ u0 u1 : Bool, (u0 && u1) = true → (u0 = true ∧ u1 = true)) (x3.kind == (3 : Int)) (x3.n == (0 : Int)) g49 with ⟨h128, h129⟩
        clear g49
        obtain ⟨v131, h130, h⟩ := Option.bind_eq_some_iff.1 h
        have f50 := ref20_Name_ok h130
        try simp only [encx.down, Nat.zero_add, Nat.reduceAdd] at f50
        by_cases h132 : v131 = true
        rw [if_pos h132] at h
        obtain ⟨v134, h133, h⟩ := Option.bind_eq_some_iff.1 h
        have f51 := ih67 _ _ h133
        try dsimp only at f51
        try simp only [T.Snip.enc_eq, encx.down, Nat.zero_add, Nat.reduceAdd] at f51
        by_cases h135 : (!v134) = true
        rw [if_pos h135] at h
        try simp only [h132] at f50 f51
        cases h
        show _ = some (ref20_may_L0_enc (.inl _))
        dsimp only [ref20_may_L0_enc]
        clear ih61 ih67
        rotate_left
        rw [if_neg h135] at h; replace h135 := Bool.eq_false_iff.2 h135
        try simp only [h132] at f50 f51
        have f52 := ih61 _ _ h
        try dsimp only at f52
        try simp only [T.Snip.enc_eq, encx.down, Nat.zero_add, Nat.reduceAdd] at f52
        clear h
        try simp only [h132] at f52
        clear ih61 ih67
        rotate_left
        rw [if_neg h132] at h; replace h132 := Bool.eq_false_iff.2 h132
        try simp only [h132] at f50
        cases h
        show _ = some (ref20_may_L0_enc (.inl _))
        dsimp only [ref20_may_L0_enc]
        clear ih61 ih67
        rotate_left
        focus
          rw [if_neg g49] at h; replace g49 := Bool.eq_false_iff.2 g49
          rcases (by intro u0 u1; cases u0 <;> cases u1 <;> simp [Dum] : ∀ u0 u1 : Bool, (u0 && u1) = false → (u0 = false ∧ Dum) ∨ (u0 = true ∧ u1 = false)) (x3.kind == (3 : Int)) (x3.n == (0 : Int)) g49 with ⟨h128, h129⟩ | ⟨h128, h129⟩
          clear g49
          all_goals
            cases h
            show _ = some (ref20_may_L0_enc (.inl _))
            dsimp only [ref20_may_L0_enc]
            clear ih61 ih67
            rotate_left
        rotate_left 2
        rw [if_neg h117] at h; replace h117 := Bool.eq_false_iff.2 h117
        by_cases g53 : ((x3.kind == (0 : Int)) || ((x3.kind == (1 : Int)) || (x3.kind == (2 : Int)))) = true
        focus
          rw [if_pos g53] at h
          rcases (by intro u0 u1 u2; cases u0 <;> cases u1 <;> cases u2 <;> simp [Dum] : ∀ u0 u1 u2 : Bool, (u0 || (u1 || u2)) = true → (u0 = true ∧ Dum ∧ Dum) ∨ (u0 = false ∧ u1 = true ∧ Dum) ∨ (u0 = false ∧ u1 = false ∧ u2 = true)) (x3.kind == (0 : Int)) (x3.kind == (1 : Int)) (x3.kind == (2 : Int)) g53 with ⟨h136, h137, h138⟩ | ⟨h136, h137, h138⟩ | ⟨h136, h137, h138⟩
          clear g53
          all_goals
            cases h
            show _ = some (ref20_may_L0_enc (.inl _))
            dsimp only [ref20_may_L0_enc]
            clear ih61 ih67
            rotate_left
        rotate_left 3
        rw [if_neg g53] at h; replace g53 := Bool.eq_false_iff.2 g53
        rcases (by intro u0 u1 u2; cases u0 <;> cases u1 <;> cases u2 <;> simp [Dum] : ∀ u0 u1 u2 : Bool, (u0 || (u1 || u2)) = false → (u0 = false ∧ u1 = false ∧ u2 = false)) (x3.kind == (0 : Int)) (x3.kind == (1 : Int)) (x3.kind == (2 : Int)) g53 with ⟨h136, h137, h138⟩
        clear g53
        by_cases g54 : ((x3.kind == (3 : Int)) && (x3.n == (0 : Int))) = true
        rw [if_pos g54] at h
        rcases (by intro u0 u1; cases u0 <;> cases u1 <;> simp [Dum] : ∀ u0 u1 : Bool, (u0 && u1) = true → (u0 = true ∧ u1 = true)) (x3.kind == (3 : Int)) (x3.n == (0 : Int)) g54 with ⟨h139, h140⟩
        clear g54
        obtain ⟨v142, h141, h⟩ := Option.bind_eq_some_iff.1 h
        have f55 := ref20_Name_ok h141
        try simp only [encx.down, Nat.zero_add, Nat.reduceAdd] at f55
        by_cases h143 : v142 = true
        rw [if_pos h143] at h
        obtain ⟨v145, h144, h⟩ := Option.bind_eq_some_iff.1 h
        have f56 := ih67 _ _ h144
        try dsimp only at f56
        try simp only [T.Snip.enc_eq, encx.down, Nat.zero_add, Nat.reduceAdd] at f56
        by_cases h146 : (!v145) = true
        rw [if_pos h146] at h
        try simp only [h143] at f55 f56
        cases h
        show _ = some (ref20_may_L0_enc (.inl _))
        dsimp only [ref20_may_L0_enc]
        clear ih61 ih67
        rotate_left
        rw [if_neg h146] at h; replace h146 := Bool.eq_false_iff.2 h146
        try simp only [h143] at f55 f56
        have f57 := ih61 _ _ h
        try dsimp only at f57
        try simp only [T.Snip.enc_eq, encx.down, Nat.zero_add, Nat.reduceAdd] at f57
        clear h
        try simp only [h143] at f57
        clear ih61 ih67
        rotate_left
        rw [if_neg h143] at h; replace h143 := Bool.eq_false_iff.2 h143
        try simp only [h143] at f55
        cases h
        show _ = some (ref20_may_L0_enc (.inl _))
        dsimp only [ref20_may_L0_enc]
        clear ih61 ih67
        rotate_left
        focus
          rw [if_neg g54] at h; replace g54 := Bool.eq_false_iff.2 g54
          rcases (by intro u0 u1; cases u0 <;> cases u1 <;> simp [Dum] : ∀ u0 u1 : Bool, (u0 && u1) = false → (u0 = false ∧ Dum) ∨ (u0 = true ∧ u1 = false)) (x3.kind == (3 : Int)) (x3.n == (0 : Int)) g54 with ⟨h139, h140⟩ | ⟨h139, h140⟩
          clear g54
          all_goals
            cases h
            show _ = some (ref20_may_L0_enc (.inl _))
            dsimp only [ref20_may_L0_enc]
            clear ih61 ih67
            rotate_left
        rotate_left 2
    rotate_left 42
    rw [if_neg h1] at h; replace h1 := Bool.eq_false_iff.2 h1
    cases h
    show _ = some (ref20_may_L0_enc (.inr _))
    dsimp only [ref20_may_L0_enc]
    clear ih61 ih67
    rotate_left
    all_goals
      refine omega_L fn21 (by rfl) ?_
      simp (disch := first | assumption | rfl | exact Sure.mk (by kernel_rfl)) only [go_sem, coreG.down, tab.down, ↓reduceIte, Nat.reduceLeDiff, Nat.reduceEqDiff, Nat.reduceLT, Nat.reduceAdd, Nat.reduceSub, Nat.reduceMul, reduceCtorEq, Nat.reducePow, sp21_0, T.Snip.enc_eq, *]
  · intro ref20_may ih60
    rintro x r h
    try dsimp only at h ⊢
    by_cases h1 : (decide ((x.opts.l.length : Int) > (0 : Int))) = true
    rw [if_pos h1] at h
    cases h
    clear ih60
    rotate_left
    rw [if_neg h1] at h; replace h1 := Bool.eq_false_iff.2 h1
    by_cases h2 : x.has = true
    rw [if_pos h2] at h
    by_cases h3 : x.turned = true
    rw [if_pos h3] at h
    cases h
    clear ih60
    rotate_left
    rw [if_neg h3] at h; replace h3 := Bool.eq_false_iff.2 h3
    obtain ⟨v5, h4, h⟩ := Option.bind_eq_some_iff.1 h
    have f1 := ref20_SameForm_ok h4
    try simp only [T.Form.enc_eq, encx.down, Nat.zero_add, Nat.reduceAdd] at f1
    by_cases h6 : v5 = true
    rw [if_pos h6] at h
    obtain ⟨v8, h7, h⟩ := Option.bind_eq_some_iff.1 h
    have f2 := ih60 _ _ h7
    try dsimp only at f2
    try simp only [T.Snip.enc_eq, encx.down, Nat.zero_add, Nat.reduceAdd] at f2
    try simp only [h2, h3, h6] at f1 f2
    cases h
    clear ih60
    rotate_left
    rw [if_neg h6] at h; replace h6 := Bool.eq_false_iff.2 h6
    try simp only [h2, h3, h6] at f1
    cases h
    clear ih60
    rotate_left
    rw [if_neg h2] at h; replace h2 := Bool.eq_false_iff.2 h2
    by_cases h9 : (decide ((x.kids.l.length : Int) > (0 : Int))) = true
    rw [if_pos h9] at h
    cases h
    clear ih60
    rotate_left
    rw [if_neg h9] at h; replace h9 := Bool.eq_false_iff.2 h9
    by_cases h10 : x.turned = true
    rw [if_pos h10] at h
    obtain ⟨v12, h11, h⟩ := Option.bind_eq_some_iff.1 h
    have f3 := ref19_May_ok h11
    try simp only [T.Form.enc_eq, encx.down, Nat.zero_add, Nat.reduceAdd] at f3
    try simp only [h2, h10] at f3
    cases h
    clear ih60
    rotate_left
    rw [if_neg h10] at h; replace h10 := Bool.eq_false_iff.2 h10
    obtain ⟨v14, h13, h⟩ := Option.bind_eq_some_iff.1 h
    have f4 := ref20_SameForm_ok h13
    try simp only [T.Form.enc_eq, encx.down, Nat.zero_add, Nat.reduceAdd] at f4
    by_cases h15 : v14 = true
    rw [if_pos h15] at h
    obtain ⟨v17, h16, h⟩ := Option.bind_eq_some_iff.1 h
    have f5 := ih60 _ _ h16
    try dsimp only at f5
    try simp only [T.Snip.enc_eq, encx.down, Nat.zero_add, Nat.reduceAdd] at f5
    try simp only [h2, h10, h15] at f4 f5
    cases h
    clear ih60
    rotate_left
    rw [if_neg h15] at h; replace h15 := Bool.eq_false_iff.2 h15
    try simp only [h2, h10, h15] at f4
    cases h
    clear ih60
    rotate_left
    all_goals
      refine omega_F rfl fn35 (by rfl) (by rfl) rfl ?_
      simp (disch := first | assumption | rfl | exact Sure.mk (by kernel_rfl)) only [go_sem, coreG.down, tab.down, ↓reduceIte, Nat.reduceLeDiff, Nat.reduceEqDiff, Nat.reduceLT, Nat.reduceAdd, Nat.reduceSub, Nat.reduceMul, reduceCtorEq, Nat.reducePow, sp21_0, T.Snip.enc_eq, *]
set_option maxHeartbeats 4000000 in
theorem ref20_may_ok {l : (Sl T.Snip)} {r : (Bool)} (h : ref20_may l = some r) :
    O.call 21 [AV.pv (PV.sl l.nil (szc 18 l.l) (List.map T.Snip.enc l.l))] [] = some (AV.pv (PV.bool r), []) := ref20_may_all.1 l r h
set_option maxHeartbeats 4000000 in
theorem ref20_may_L0_ok {l : (Sl T.Snip)} {i : Int} {r : ((Bool) ⊕ (Unit))} (h : ref20_may_L0 (l, i) = some r) :
    O.loop 21 0 ⟨[(0, AV.pv (PV.sl l.nil (szc 18 l.l) (List.map T.Snip.enc l.l))), (3, AV.pv (PV.int IntKind.i64 i))], [], 0⟩ = some (ref20_may_L0_enc r) := ref20_may_all.2.1 (l, i) r h
set_option maxHeartbeats 4000000 in
theorem ref20_stop_ok {x : T.Snip} {r : (Bool)} (h : ref20_stop x = some r) :
    O.call 35 [AV.pv (PV.agg (T.Snip.enc x))] [] = some (AV.pv (PV.bool r), []) := ref20_may_all.2.2 x r h
set_option maxHeartbeats 4000000 in
theorem ref20_May_ok {l : (Sl T.Snip)} {r : (Bool)} (h : ref20_May l = some r) :
    O.call 7 [AV.pv (PV.sl l.nil (szc 18 l.l) (List.map T.Snip.enc l.l))] [] = some (AV.pv (PV.bool r), []) := by
  unfold ref20_May at h
  obtain ⟨v2, h1, h⟩ := Option.bind_eq_some_iff.1 h
  have f1 := ref20_Deep_ok h1
  try simp only [T.Snip.enc_eq, encx.down, Nat.zero_add, Nat.reduceAdd] at f1
  by_cases h3 : (decide (v2 ≤ (32 : Int))) = true
  rw [if_pos h3] at h
  obtain ⟨v5, h4, h⟩ := Option.bind_eq_some_iff.1 h
  have f2 := ref20_may_ok h4
  try simp only [T.Snip.enc_eq, encx.down, Nat.zero_add, Nat.reduceAdd] at f2
  cases h
  rotate_left
  rw [if_neg h3] at h; replace h3 := Bool.eq_false_iff.2 h3
  cases h
  rotate_left
  all_goals
    refine omega_F rfl fn7 (by rfl) (by rfl) rfl ?_
    simp (disch := first | assumption | rfl | exact Sure.mk (by kernel_rfl)) only [go_sem, coreG.down, tab.down, ↓reduceIte, Nat.reduceLeDiff, Nat.reduceEqDiff, Nat.reduceLT, Nat.reduceAdd, Nat.reduceSub, Nat.reduceMul, reduceCtorEq, Nat.reducePow, T.Snip.enc_eq, *]
set_option maxHeartbeats 4000000 in
theorem snode_Deep_all : (∀ p r, snode_Deep p = some r → O.call 8 [AV.pv (PV.sl p.nil (szc 18 p.l) (List.map T.Snip.enc p.l))] [] = some (AV.pv (PV.int IntKind.i64 r), [])) ∧ (∀ p r, snode_Deep_L0 p = some r → O.loop 8 0 ⟨[(3, AV.pv (PV.int IntKind.i64 p.1)), (7, AV.pv (PV.sl p.2.1.nil (szc 18 p.2.1.l) (List.map T.Snip.enc p.2.1.l))), (8, AV.pv (PV.int IntKind.i64 p.2.2.1)), (9, AV.pv (PV.int IntKind.i64 p.2.2.2))], [], 0⟩ = some (Ex.normal, ⟨[(3, AV.pv (PV.int IntKind.i64 r))], [], 0⟩)) := by
  refine snode_Deep.mutual_partial_correctness (fun p r => O.call 8 [AV.pv (PV.sl p.nil (szc 18 p.l) (List.map T.Snip.enc p.l))] [] = some (AV.pv (PV.int IntKind.i64 r), [])) (fun p r => O.loop 8 0 ⟨[(3, AV.pv (PV.int IntKind.i64 p.1)), (7, AV.pv (PV.sl p.2.1.nil (szc 18 p.2.1.l) (List.map T.Snip.enc p.2.1.l))), (8, AV.pv (PV.int IntKind.i64 p.2.2.1)), (9, AV.pv (PV.int IntKind.i64 p.2.2.2))], [], 0⟩ = some (Ex.normal, ⟨[(3, AV.pv (PV.int IntKind.i64 r))], [], 0⟩)) ?_ ?_
  · intro snode_Deep_L0 ih94
    rintro l r h
    try dsimp only at h ⊢
    obtain ⟨v2, h1, h⟩ := Option.bind_eq_some_iff.1 h
    have f1 := ih94 _ _ h1
    try dsimp only at f1
    try simp only [T.Snip.enc_eq, encx.down, Nat.zero_add, Nat.reduceAdd] at f1
    cases h
    clear ih94
    rotate_left
    all_goals
      refine omega_F rfl fn8 (by rfl) (by rfl) rfl ?_
      simp (disch := first | assumption | rfl | exact Sure.mk (by kernel_rfl)) only [go_sem, coreG.down, tab.down, ↓reduceIte, Nat.reduceLeDiff, Nat.reduceEqDiff, Nat.reduceLT, Nat.reduceAdd, Nat.reduceSub, Nat.reduceMul, reduceCtorEq, Nat.reducePow, sp8_0, T.Snip.enc_eq, *]
  · intro snode_Deep snode_Deep_L0 ih93 ih94
    rintro ⟨most, t7, t8, t9⟩ r h
    dsimp only at h ⊢
    by_cases h1 : (decide (t9 < t8)) = true
    rw [if_pos h1] at h
    obtain ⟨x3, h2, h⟩ := Option.bind_eq_some_iff.1 h
    have f1 := geti_nat h2 IntKind.i64
    have f2 := geti_map T.Snip.enc h2
    try simp only [T.Snip.enc_eq, encx.down, Nat.zero_add, Nat.reduceAdd] at f2
    have f3 := geti_szcT h2 18
    obtain ⟨v5, h4, h⟩ := Option.bind_eq_some_iff.1 h
    have f4 := ih93 _ _ h4
    try dsimp only at f4
    try simp only [T.Snip.enc_eq, encx.down, Nat.zero_add, Nat.reduceAdd] at f4
    by_cases h6 : x3.has = true
    rw [if_pos h6] at h
    try simp only [h6] at f4
    have f5 := ih94 _ _ h
    try dsimp only at f5
    try simp only [T.Snip.enc_eq, encx.down, Nat.zero_add, Nat.reduceAdd] at f5
    clear h
    try simp only [h6] at f5
    clear ih93 ih94
    rotate_left
    rw [if_neg h6] at h; replace h6 := Bool.eq_false_iff.2 h6
    try simp only [h6] at f4
    have f6 := ih94 _ _ h
    try dsimp only at f6
    try simp only [T.Snip.enc_eq, encx.down, Nat.zero_add, Nat.reduceAdd] at f6
    clear h
    try simp only [h6] at f6
    clear ih93 ih94
    rotate_left
    rw [if_neg h1] at h; replace h1 := Bool.eq_false_iff.2 h1
    cases h
    clear ih93 ih94
    rotate_left
    all_goals
      refine omega_L fn8 (by rfl) ?_
      simp (disch := first | assumption | rfl | exact Sure.mk (by kernel_rfl)) only [go_sem, coreG.down, tab.down, ↓reduceIte, Nat.reduceLeDiff, Nat.reduceEqDiff, Nat.reduceLT, Nat.reduceAdd, Nat.reduceSub, Nat.reduceMul, reduceCtorEq, Nat.reducePow, sp8_0, T.Snip.enc_eq, *]
set_option maxHeartbeats 4000000 in
theorem snode_Deep_ok {l : (Sl T.Snip)} {r : (Int)} (h : snode_Deep l = some r) :
    O.call 8 [AV.pv (PV.sl l.nil (szc 18 l.l) (List.map T.Snip.enc l.l))] [] = some (AV.pv (PV.int IntKind.i64 r), []) := snode_Deep_all.1 l r h
set_option maxHeartbeats 4000000 in
theorem snode_Deep_L0_ok {most : Int} {t7 : (Sl T.Snip)} {t8 : Int} {t9 : Int} {r : (Int)} (h : snode_Deep_L0 (most, t7, t8, t9) = some r) :
    O.loop 8 0 ⟨[(3, AV.pv (PV.int IntKind.i64 most)), (7, AV.pv (PV.sl t7.nil (szc 18 t7.l) (List.map T.Snip.enc t7.l))), (8, AV.pv (PV.int IntKind.i64 t8)), (9, AV.pv (PV.int IntKind.i64 t9))], [], 0⟩ = some (Ex.normal, ⟨[(3, AV.pv (PV.int IntKind.i64 r))], [], 0⟩) := snode_Deep_all.2 (most, t7, t8, t9) r h
set_option maxHeartbeats 4000000 in
theorem snode_Parts_all : (∀ p r, snode_Parts p = some r → O.call 10 [AV.pv (PV.sl p.nil (szc 18 p.l) (List.map T.Snip.enc p.l))] [] = some (AV.pv (PV.int IntKind.i64 r), [])) ∧ (∀ p r, snode_Parts_L0 p = some r → O.loop 10 0 ⟨[(3, AV.pv (PV.int IntKind.i64 p.1)), (8, AV.pv (PV.sl p.2.1.nil (szc 18 p.2.1.l) (List.map T.Snip.enc p.2.1.l))), (9, AV.pv (PV.int IntKind.i64 p.2.2.1)), (10, AV.pv (PV.int IntKind.i64 p.2.2.2))], [], 0⟩ = some (Ex.normal, ⟨[(3, AV.pv (PV.int IntKind.i64 r))], [], 0⟩)) := by
  refine snode_Parts.mutual_partial_correctness (fun p r => O.call 10 [AV.pv (PV.sl p.nil (szc 18 p.l) (List.map T.Snip.enc p.l))] [] = some (AV.pv (PV.int IntKind.i64 r), [])) (fun p r => O.loop 10 0 ⟨[(3, AV.pv (PV.int IntKind.i64 p.1)), (8, AV.pv (PV.sl p.2.1.nil (szc 18 p.2.1.l) (List.map T.Snip.enc p.2.1.l))), (9, AV.pv (PV.int IntKind.i64 p.2.2.1)), (10, AV.pv (PV.int IntKind.i64 p.2.2.2))], [], 0⟩ = some (Ex.normal, ⟨[(3, AV.pv (PV.int IntKind.i64 r))], [], 0⟩)) ?_ ?_
  · intro snode_Parts_L0 ih96
    rintro l r h
    try dsimp only at h ⊢
    obtain ⟨v2, h1, h⟩ := Option.bind_eq_some_iff.1 h
    have f1 := ih96 _ _ h1
    try dsimp only at f1
    try simp only [T.Snip.enc_eq, encx.down, Nat.zero_add, Nat.reduceAdd] at f1
    cases h
    clear ih96
    rotate_left
    all_goals
      refine omega_F rfl fn10 (by rfl) (by rfl) rfl ?_
      simp (disch := first | assumption | rfl | exact Sure.mk (by kernel_rfl)) only [go_sem, coreG.down, tab.down, ↓reduceIte, Nat.reduceLeDiff, Nat.reduceEqDiff, Nat.reduceLT, Nat.reduceAdd, Nat.reduceSub, Nat.reduceMul, reduceCtorEq, Nat.reducePow, sp10_0, T.Snip.enc_eq, *]
  · intro snode_Parts snode_Parts_L0 ih95 ih96
    rintro ⟨n, t8, t9, t10⟩ r h
    dsimp only at h ⊢
    by_cases h1 : (decide (t10 < t9)) = true
    rw [if_pos h1] at h
    obtain ⟨x3, h2, h⟩ := Option.bind_eq_some_iff.1 h
    have f1 := geti_nat h2 IntKind.i64
    have f2 := geti_map T.Snip.enc h2
    try simp only [T.Snip.enc_eq, encx.down, Nat.zero_add, Nat.reduceAdd] at f2
    have f3 := geti_szcT h2 18
    obtain ⟨v5, h4, h⟩ := Option.bind_eq_some_iff.1 h
    have f4 := ih95 _ _ h4
    try dsimp only at f4
    try simp only [T.Snip.enc_eq, encx.down, Nat.zero_add, Nat.reduceAdd] at f4
    have f5 := ih96 _ _ h
    try dsimp only at f5
    try simp only [T.Snip.enc_eq, encx.down, Nat.zero_add, Nat.reduceAdd] at f5
    clear h
    clear ih95 ih96
    rotate_left
    rw [if_neg h1] at h; replace h1 := Bool.eq_false_iff.2 h1
    cases h
    clear ih95 ih96
    rotate_left
    all_goals
      refine omega_L fn10 (by rfl) ?_
      simp (disch := first | assumption | rfl | exact Sure.mk (by kernel_rfl)) only [go_sem, coreG.down, tab.down, ↓reduceIte, Nat.reduceLeDiff, Nat.reduceEqDiff, Nat.reduceLT, Nat.reduceAdd, Nat.reduceSub, Nat.reduceMul, reduceCtorEq, Nat.reducePow, sp10_0, T.Snip.enc_eq, *]
set_option maxHeartbeats 4000000 in
theorem snode_Parts_ok {l : (Sl T.Snip)} {r : (Int)} (h : snode_Parts l = some r) :
    O.call 10 [AV.pv (PV.sl l.nil (szc 18 l.l) (List.map T.Snip.enc l.l))] [] = some (AV.pv (PV.int IntKind.i64 r), []) := snode_Parts_all.1 l r h
set_option maxHeartbeats 4000000 in
theorem snode_Parts_L0_ok {n : Int} {t8 : (Sl T.Snip)} {t9 : Int} {t10 : Int} {r : (Int)} (h : snode_Parts_L0 (n, t8, t9, t10) = some r) :
    O.loop 10 0 ⟨[(3, AV.pv (PV.int IntKind.i64 n)), (8, AV.pv (PV.sl t8.nil (szc 18 t8.l) (List.map T.Snip.enc t8.l))), (9, AV.pv (PV.int IntKind.i64 t9)), (10, AV.pv (PV.int IntKind.i64 t10))], [], 0⟩ = some (Ex.normal, ⟨[(3, AV.pv (PV.int IntKind.i64 r))], [], 0⟩) := snode_Parts_all.2 (n, t8, t9, t10) r h
set_option maxHeartbeats 4000000 in
theorem ref20_Parts_all : (∀ p r, ref20_Parts p = some r → O.call 11 [AV.pv (PV.sl p.nil (szc 18 p.l) (List.map T.Snip.enc p.l))] [] = some (AV.pv (PV.int IntKind.i64 r), [])) ∧ (∀ p r, ref20_Parts_L0 p = some r → O.loop 11 0 ⟨[(0, AV.pv (PV.sl p.1.nil (szc 18 p.1.l) (List.map T.Snip.enc p.1.l))), (3, AV.pv (PV.int IntKind.i64 p.2.1)), (4, AV.pv (PV.int IntKind.i64 p.2.2))], [], 0⟩ = some (Ex.normal, ⟨[(3, AV.pv (PV.int IntKind.i64 r))], [], 0⟩)) := by
  refine ref20_Parts.mutual_partial_correctness (fun p r => O.call 11 [AV.pv (PV.sl p.nil (szc 18 p.l) (List.map T.Snip.enc p.l))] [] = some (AV.pv (PV.int IntKind.i64 r), [])) (fun p r => O.loop 11 0 ⟨[(0, AV.pv (PV.sl p.1.nil (szc 18 p.1.l) (List.map T.Snip.enc p.1.l))), (3, AV.pv (PV.int IntKind.i64 p.2.1)), (4, AV.pv (PV.int IntKind.i64 p.2.2))], [], 0⟩ = some (Ex.normal, ⟨[(3, AV.pv (PV.int IntKind.i64 r))], [], 0⟩)) ?_ ?_
  · intro ref20_Parts_L0 ih98
    rintro l r h
    try dsimp only at h ⊢
    obtain ⟨v2, h1, h⟩ := Option.bind_eq_some_iff.1 h
    have f1 := ih98 _ _ h1
    try dsimp only at f1
    try simp only [T.Snip.enc_eq, encx.down, Nat.zero_add, Nat.reduceAdd] at f1
    cases h
    clear ih98
    rotate_left
    all_goals
      refine omega_F rfl fn11 (by rfl) (by rfl) rfl ?_
      simp (disch := first | assumption | rfl | exact Sure.mk (by kernel_rfl)) only [go_sem, coreG.down, tab.down, ↓reduceIte, Nat.reduceLeDiff, Nat.reduceEqDiff, Nat.reduceLT, Nat.reduceAdd, Nat.reduceSub, Nat.reduceMul, reduceCtorEq, Nat.reducePow, sp11_0, T.Snip.enc_eq, *]
  · intro ref20_Parts ref20_Parts_L0 ih97 ih98
    rintro ⟨l, n, i⟩ r h
    dsimp only at h ⊢
    by_cases h1 : (decide (i < (l.l.length : Int))) = true
    rw [if_pos h1] at h
    obtain ⟨x3, h2, h⟩ := Option.bind_eq_some_iff.1 h
    have f1 := geti_nat h2 IntKind.i64
    have f2 := geti_map T.Snip.enc h2
    try simp only [T.Snip.enc_eq, encx.down, Nat.zero_add, Nat.reduceAdd] at f2
    have f3 := geti_szcT h2 18
    obtain ⟨v5, h4, h⟩ := Option.bind_eq_some_iff.1 h
    have f4 := ih97 _ _ h4
    try dsimp only at f4
    try simp only [T.Snip.enc_eq, encx.down, Nat.zero_add, Nat.reduceAdd] at f4
    have f5 := ih98 _ _ h
    try dsimp only at f5
    try simp only [T.Snip.enc_eq, encx.down, Nat.zero_add, Nat.reduceAdd] at f5
    clear h
    clear ih97 ih98
    rotate_left
    rw [if_neg h1] at h; replace h1 := Bool.eq_false_iff.2 h1
    cases h
    clear ih97 ih98
    rotate_left
    all_goals
      refine omega_L fn11 (by rfl) ?_
      simp (disch := first | assumption | rfl | exact Sure.mk (by kernel_rfl)) only [go_sem, coreG.down, tab.down, ↓reduceIte, Nat.reduceLeDiff, Nat.reduceEqDiff, Nat.reduceLT, Nat.reduceAdd, Nat.reduceSub, Nat.reduceMul, reduceCtorEq, Nat.reducePow, sp11_0, T.Snip.enc_eq, *]
set_option maxHeartbeats 4000000 in
theorem ref20_Parts_ok {l : (Sl T.Snip)} {r : (Int)} (h : ref20_Parts l = some r) :
    O.call 11 [AV.pv (PV.sl l.nil (szc 18 l.l) (List.map T.Snip.enc l.l))] [] = some (AV.pv (PV.int IntKind.i64 r), []) := ref20_Parts_all.1 l r h
set_option maxHeartbeats 4000000 in
theorem ref20_Parts_L0_ok {l : (Sl T.Snip)} {n : Int} {i : Int} {r : (Int)} (h : ref20_Parts_L0 (l, n, i) = some r) :
    O.loop 11 0 ⟨[(0, AV.pv (PV.sl l.nil (szc 18 l.l) (List.map T.Snip.enc l.l))), (3, AV.pv (PV.int IntKind.i64 n)), (4, AV.pv (PV.int IntKind.i64 i))], [], 0⟩ = some (Ex.normal, ⟨[(3, AV.pv (PV.int IntKind.i64 r))], [], 0⟩) := ref20_Parts_all.2 (l, n, i) r h
set_option maxHeartbeats 4000000 in
theorem snode_numbers_all : (∀ p r, snode_numbers p = some r → O.call 22 [AV.pv (PV.sl p.1.nil (szc 18 p.1.l) (List.map T.Snip.enc p.1.l)), AV.map 0] [(0, Blk.map (List.map entE p.2.es) p.2.clock)] = some (AV.tup [], [(0, Blk.map (List.map entE r.es) r.clock)])) ∧ (∀ p r, snode_numbers_L0 p = some r → O.loop 22 0 ⟨[(1, AV.map 0), (6, AV.pv (PV.sl p.1.nil (szc 18 p.1.l) (List.map T.Snip.enc p.1.l))), (7, AV.pv (PV.int IntKind.i64 p.2.1)), (8, AV.pv (PV.int IntKind.i64 p.2.2.1))], [(0, Blk.map (List.map entE p.2.2.2.es) p.2.2.2.clock)], 1⟩ = some (Ex.normal, ⟨[], [(0, Blk.map (List.map entE r.es) r.clock)], 1⟩)) := by
  refine snode_numbers.mutual_partial_correctness (fun p r => O.call 22 [AV.pv (PV.sl p.1.nil (szc 18 p.1.l) (List.map T.Snip.enc p.1.l)), AV.map 0] [(0, Blk.map (List.map entE p.2.es) p.2.clock)] = some (AV.tup [], [(0, Blk.map (List.map entE r.es) r.clock)])) (fun p r => O.loop 22 0 ⟨[(1, AV.map 0), (6, AV.pv (PV.sl p.1.nil (szc 18 p.1.l) (List.map T.Snip.enc p.1.l))), (7, AV.pv (PV.int IntKind.i64 p.2.1)), (8, AV.pv (PV.int IntKind.i64 p.2.2.1))], [(0, Blk.map (List.map entE p.2.2.2.es) p.2.2.2.clock)], 1⟩ = some (Ex.normal, ⟨[], [(0, Blk.map (List.map entE r.es) r.clock)], 1⟩)) ?_ ?_
  · intro snode_numbers_L0 ih101
    rintro ⟨l, m⟩ r h
    dsimp only at h ⊢
    obtain ⟨v2, h1, h⟩ := Option.bind_eq_some_iff.1 h
    have f1 := ih101 _ _ h1
    try dsimp only at f1
    try simp only [T.Snip.enc_eq, encx.down, Nat.zero_add, Nat.reduceAdd] at f1
    cases h
    clear ih101
    rotate_left
    all_goals
      refine omega_F rfl fn22 (by rfl) (by rfl) rfl ?_
      simp (disch := first | assumption | rfl | exact Sure.mk (by kernel_rfl)) only [go_sem, coreG.down, tab.down, ↓reduceIte, Nat.reduceLeDiff, Nat.reduceEqDiff, Nat.reduceLT, Nat.reduceAdd, Nat.reduceSub, Nat.reduceMul, reduceCtorEq, Nat.reducePow, sp22_0, T.Snip.enc_eq, *]
  · intro snode_numbers snode_numbers_L0 ih100 ih101
    rintro ⟨t6, t7, t8, in_⟩ r h
    dsimp only at h ⊢
    by_cases h1 : (decide (t8 < t7)) = true
    rw [if_pos h1] at h
    obtain ⟨x3, h2, h⟩ := Option.bind_eq_some_iff.1 h
    have f1 := geti_nat h2 IntKind.i64
    have f2 := geti_map T.Snip.enc h2
    try simp only [T.Snip.enc_eq, encx.down, Nat.zero_add, Nat.reduceAdd] at f2
    have f3 := geti_szcT h2 18
    by_cases g4 : ((x3.kind == (1 : Int)) || (x3.kind == (2 : Int))) = true
    focus
      rw [if_pos g4] at h
      rcases (by intro u0 u1; cases u0 <;> cases u1 <;> simp [Dum] : ∀ u0 u1 : Bool, (u0 || u1) = true → (u0 = true ∧ Dum) ∨ (u0 = false ∧ u1 = true)) (x3.kind == (1 : Int)) (x3.kind == (2 : Int)) g4 with ⟨h4, h7⟩ | ⟨h4, h7⟩
      clear g4
      all_goals
        have f5 := fun b => mii_get b in_ x3.n
        try simp only [encx.down, Nat.zero_add, Nat.reduceAdd] at f5
        have f6 := mii_put 0 in_ x3.n (IntKind.i64.wrap ((mget in_ x3.n) + (1 : Int)))
        try simp only [encx.down, Nat.zero_add, Nat.reduceAdd] at f6
        obtain ⟨v6, h5, h⟩ := Option.bind_eq_some_iff.1 h
        have f7 := ih100 _ _ h5
        try dsimp only at f7
        try simp only [T.Snip.enc_eq, encx.down, Nat.zero_add, Nat.reduceAdd] at f7
        have f8 := ih101 _ _ h
        try dsimp only at f8
        try simp only [T.Snip.enc_eq, encx.down, Nat.zero_add, Nat.reduceAdd] at f8
        clear h
        clear ih100 ih101
        rotate_left
    rotate_left 2
    rw [if_neg g4] at h; replace g4 := Bool.eq_false_iff.2 g4
    rcases (by intro u0 u1; cases u0 <;> cases u1 <;> simp [Dum] : ∀ u0 u1 : Bool, (u0 || u1) = false → (u0 = false ∧ u1 = false)) (x3.kind == (1 : Int)) (x3.kind == (2 : Int)) g4 with ⟨h4, h7⟩
    clear g4
    obtain ⟨v11, h10, h⟩ := Option.bind_eq_some_iff.1 h
    have f9 := ih100 _ _ h10
    try dsimp only at f9
    try simp only [T.Snip.enc_eq, encx.down, Nat.zero_add, Nat.reduceAdd] at f9
    have f10 := ih101 _ _ h
    try dsimp only at f10
    try simp only [T.Snip.enc_eq, encx.down, Nat.zero_add, Nat.reduceAdd] at f10
    clear h
    clear ih100 ih101
    rotate_left
    rw [if_neg h1] at h; replace h1 := Bool.eq_false_iff.2 h1
    cases h
    clear ih100 ih101
    rotate_left
    all_goals
      refine omega_L fn22 (by rfl) ?_
      simp (disch := first | assumption | rfl | exact Sure.mk (by kernel_rfl)) only [go_sem, coreG.down, tab.down, ↓reduceIte, Nat.reduceLeDiff, Nat.reduceEqDiff, Nat.reduceLT, Nat.reduceAdd, Nat.reduceSub, Nat.reduceMul, reduceCtorEq, Nat.reducePow, sp22_0, T.Snip.enc_eq, *]
set_option maxHeartbeats 4000000 in
theorem snode_numbers_ok {l : (Sl T.Snip)} {m : MapII} {r : (MapII)} (h : snode_numbers (l, m) = some r) :
    O.call 22 [AV.pv (PV.sl l.nil (szc 18 l.l) (List.map T.Snip.enc l.l)), AV.map 0] [(0, Blk.map (List.map entE m.es) m.clock)] = some (AV.tup [], [(0, Blk.map (List.map entE r.es) r.clock)]) := snode_numbers_all.1 (l, m) r h
set_option maxHeartbeats 4000000 in
theorem snode_numbers_L0_ok {t6 : (Sl T.Snip)} {t7 : Int} {t8 : Int} {in_ : MapII} {r : (MapII)} (h : snode_numbers_L0 (t6, t7, t8, in_) = some r) :
    O.loop 22 0 ⟨[(1, AV.map 0), (6, AV.pv (PV.sl t6.nil (szc 18 t6.l) (List.map T.Snip.enc t6.l))), (7, AV.pv (PV.int IntKind.i64 t7)), (8, AV.pv (PV.int IntKind.i64 t8))], [(0, Blk.map (List.map entE in_.es) in_.clock)], 1⟩ = some (Ex.normal, ⟨[], [(0, Blk.map (List.map entE r.es) r.clock)], 1⟩) := snode_numbers_all.2 (t6, t7, t8, in_) r h
set_option maxHeartbeats 4000000 in
theorem maps_Keys_map_int_int_ok {m : MapII} {r : (Unit)} (h : maps_Keys_map_int_int m = some r) :
    O.call 24 [AV.map 0] [(0, Blk.map (List.map entE m.es) m.clock)] = some (AV.clo 39 [] [AV.ptr 1 0], [(0, Blk.map (List.map entE m.es) m.clock), (1, Blk.box [AV.map 0])]) := by
  unfold maps_Keys_map_int_int at h
  cases h
  rotate_left
  all_goals
    refine omega_F rfl fn24 (by rfl) (by rfl) rfl ?_
    simp (disch := first | assumption | rfl | exact Sure.mk (by kernel_rfl)) only [go_sem, coreG.down, tab.down, ↓reduceIte, Nat.reduceLeDiff, Nat.reduceEqDiff, Nat.reduceLT, Nat.reduceAdd, Nat.reduceSub, Nat.reduceMul, reduceCtorEq, Nat.reducePow, *]
set_option maxHeartbeats 4000000 in
theorem snode_Numbers_ok {l : (Sl T.Snip)} {r : ((Sl Int))} (h : snode_Numbers l = some r) :
    O.call 13 [AV.pv (PV.sl l.nil (szc 18 l.l) (List.map T.Snip.enc l.l))] [] = some (AV.pv (PV.sl r.nil (szc 1 r.l) (List.map intE r.l)), []) := by
  unfold snode_Numbers at h
  obtain ⟨v2, h1, h⟩ := Option.bind_eq_some_iff.1 h
  have f1 := snode_numbers_ok h1
  try simp only [T.Snip.enc_eq, encx.down, Nat.zero_add, Nat.reduceAdd] at f1
  obtain ⟨v4, h3, h⟩ := Option.bind_eq_some_iff.1 h
  have f2 := maps_Keys_map_int_int_ok h3
  try simp only [encx.down, Nat.zero_add, Nat.reduceAdd] at f2
  obtain ⟨v6, h5, h⟩ := Option.bind_eq_some_iff.1 h
  have f3 := sortedKeys_ok h5
  try simp only [intE, encx.down, Nat.zero_add, Nat.reduceAdd] at f3
  cases h
  rotate_left
  all_goals
    refine omega_F rfl fn13 (by rfl) (by rfl) rfl ?_
    simp (disch := first | assumption | rfl | exact Sure.mk (by kernel_rfl)) only [go_sem, coreG.down, tab.down, ↓reduceIte, Nat.reduceLeDiff, Nat.reduceEqDiff, Nat.reduceLT, Nat.reduceAdd, Nat.reduceSub, Nat.reduceMul, reduceCtorEq, Nat.reducePow, T.Snip.enc_eq, intE, *]
set_option maxHeartbeats 4000000 in
theorem ref20_Put_L0_ok {ns : (Sl Int)} {n : Int} {k : Int} {r : (Int)} (h : ref20_Put_L0 (ns, n, k) = some r) :
    O.loop 40 0 ⟨[(0, AV.pv (PV.sl ns.nil (szc 1 ns.l) (List.map intE ns.l))), (1, AV.pv (PV.int IntKind.i64 n)), (5, AV.pv (PV.int IntKind.i64 k))], [], 0⟩ = some (Ex.normal, ⟨[(0, AV.pv (PV.sl ns.nil (szc 1 ns.l) (List.map intE ns.l))), (1, AV.pv (PV.int IntKind.i64 n)), (5, AV.pv (PV.int IntKind.i64 r))], [], 0⟩) := by
  refine ref20_Put_L0.partial_correctness (fun p r => O.loop 40 0 ⟨[(0, AV.pv (PV.sl p.1.nil (szc 1 p.1.l) (List.map intE p.1.l))), (1, AV.pv (PV.int IntKind.i64 p.2.1)), (5, AV.pv (PV.int IntKind.i64 p.2.2))], [], 0⟩ = some (Ex.normal, ⟨[(0, AV.pv (PV.sl p.1.nil (szc 1 p.1.l) (List.map intE p.1.l))), (1, AV.pv (PV.int IntKind.i64 p.2.1)), (5, AV.pv (PV.int IntKind.i64 r))], [], 0⟩)) ?_ (ns, n, k) r h
  clear h r ns n k
  intro ref20_Put_L0 ih108
  rintro ⟨ns, n, k⟩ r h
  dsimp only at h ⊢
  by_cases h1 : (decide (k < (ns.l.length : Int))) = true
  rw [if_pos h1] at h
  obtain ⟨x3, h2, h⟩ := Option.bind_eq_some_iff.1 h
  have f1 := geti_nat h2 IntKind.i64
  have f2 := geti_map intE h2
  try simp only [intE, encx.down, Nat.zero_add, Nat.reduceAdd] at f2
  have f3 := geti_szcT h2 1
  by_cases h4 : (decide (x3 < n)) = true
  rw [if_pos h4] at h
  have f4 := ih108 _ _ h
  try dsimp only at f4
  try simp only [intE, encx.down, Nat.zero_add, Nat.reduceAdd] at f4
  clear h
  clear ih108
  rotate_left
  rw [if_neg h4] at h; replace h4 := Bool.eq_false_iff.2 h4
  cases h
  clear ih108
  rotate_left
  rw [if_neg h1] at h; replace h1 := Bool.eq_false_iff.2 h1
  cases h
  clear ih108
  rotate_left
  all_goals
    refine omega_L fn40 (by rfl) ?_
    simp (disch := first | assumption | rfl | exact Sure.mk (by kernel_rfl)) only [go_sem, coreG.down, tab.down, ↓reduceIte, Nat.reduceLeDiff, Nat.reduceEqDiff, Nat.reduceLT, Nat.reduceAdd, Nat.reduceSub, Nat.reduceMul, reduceCtorEq, Nat.reducePow, sp40_0, intE, *]
set_option maxHeartbeats 4000000 in
theorem ref20_Put_ok {ns : (Sl Int)} {n : Int} {r : ((Sl Int))} (h : ref20_Put ns n = some r) :
    O.call 40 [AV.pv (PV.sl ns.nil (szc 1 ns.l) (List.map intE ns.l)), AV.pv (PV.int IntKind.i64 n)] [] = some (AV.pv (PV.sl r.nil (szc 1 r.l) (List.map intE r.l)), []) := by
  unfold ref20_Put at h
  obtain ⟨v2, h1, h⟩ := Option.bind_eq_some_iff.1 h
  have f1 := ref20_Put_L0_ok h1
  try simp only [intE, encx.down, Nat.zero_add, Nat.reduceAdd] at f1
  by_cases h3 : (decide (v2 < (ns.l.length : Int))) = true
  rw [if_pos h3] at h
  obtain ⟨x5, h4, h⟩ := Option.bind_eq_some_iff.1 h
  have f2 := geti_nat h4 IntKind.i64
  have f3 := geti_map intE h4
  try simp only [intE, encx.down, Nat.zero_add, Nat.reduceAdd] at f3
  have f4 := geti_szcT h4 1
  by_cases h6 : (x5 == n) = true
  rw [if_pos h6] at h
  cases h
  rotate_left
  rw [if_neg h6] at h; replace h6 := Bool.eq_false_iff.2 h6
  have f5 : (szc 1 ns.l = 1 ∨ List.map intE ns.l = []) = True := szc_or _ _ _
  obtain ⟨r8, h7, h⟩ := Option.bind_eq_some_iff.1 h
  have f6 := subT_hi h7 IntKind.i64
  have f7 := subT_len h7
  have f8 := map_subT intE h7
  have f9 := szc_subT h7 1
  have f10 : (szc 1 r8 = 1 ∨ List.map intE r8 = []) = True := szc_or _ _ _
  by_cases h9 : ¬ (roomOK (r8.length) 8 = true)
  rw [if_neg h9] at h; cases h
  replace h9 := Decidable.of_not_not h9; rw [if_pos h9] at h
  have f11 := h9
  by_cases h10 : ¬ (roomOK (r8.length + 1) 8 = true)
  rw [if_neg h10] at h; cases h
  replace h10 := Decidable.of_not_not h10; rw [if_pos h10] at h
  have f12 := h10
  obtain ⟨r12, h11, h⟩ := Option.bind_eq_some_iff.1 h
  have f14 := subF_lo h11 IntKind.i64
  have f15 := subF_le h11
  have f16 := map_subF intE h11
  have f17 := szc_subF h11 1
  have f18 : (szc 1 r12 = 1 ∨ List.map intE r12 = []) = True := szc_or _ _ _
  have f19 : List.map intE r8 ++ [[PV.int IntKind.i64 n]] = List.map intE (r8 ++ [n]) := by simp only [List.map_append, List.map_cons, List.map_nil, u8_nat, u8_wrap, szc_nil, intE]
  by_cases h13 : ¬ (roomOK ((r8 ++ [n]).length + r12.length) 8 = true)
  rw [if_neg h13] at h; cases h
  replace h13 := Decidable.of_not_not h13; rw [if_pos h13] at h
  have f20 := h13
  have f21 : List.map intE (r8 ++ [n]) ++ List.map intE r12 = List.map intE ((r8 ++ [n]) ++ r12) := map_app _ _ _
  try simp only [f7] at f1
  cases h
  rotate_left
  rw [if_neg h3] at h; replace h3 := Bool.eq_false_iff.2 h3
  have f22 : (szc 1 ns.l = 1 ∨ List.map intE ns.l = []) = True := szc_or _ _ _
  obtain ⟨r15, h14, h⟩ := Option.bind_eq_some_iff.1 h
  have f23 := subT_hi h14 IntKind.i64
  have f24 := subT_len h14
  have f25 := map_subT intE h14
  have f26 := szc_subT h14 1
  have f27 : (szc 1 r15 = 1 ∨ List.map intE r15 = []) = True := szc_or _ _ _
  by_cases h16 : ¬ (roomOK (r15.length) 8 = true)
  rw [if_neg h16] at h; cases h
  replace h16 := Decidable.of_not_not h16; rw [if_pos h16] at h
  have f28 := h16
  by_cases h17 : ¬ (roomOK (r15.length + 1) 8 = true)
  rw [if_neg h17] at h; cases h
  replace h17 := Decidable.of_not_not h17; rw [if_pos h17] at h
  have f29 := h17
  obtain ⟨r19, h18, h⟩ := Option.bind_eq_some_iff.1 h
  have f31 := subF_lo h18 IntKind.i64
  have f32 := subF_le h18
  have f33 := map_subF intE h18
  have f34 := szc_subF h18 1
  have f35 : (szc 1 r19 = 1 ∨ List.map intE r19 = []) = True := szc_or _ _ _
  have f36 : List.map intE r15 ++ [[PV.int IntKind.i64 n]] = List.map intE (r15 ++ [n]) := by simp only [List.map_append, List.map_cons, List.map_nil, u8_nat, u8_wrap, szc_nil, intE]
  by_cases h20 : ¬ (roomOK ((r15 ++ [n]).length + r19.length) 8 = true)
  rw [if_neg h20] at h; cases h
  replace h20 := Decidable.of_not_not h20; rw [if_pos h20] at h
  have f37 := h20
  have f38 : List.map intE (r15 ++ [n]) ++ List.map intE r19 = List.map intE ((r15 ++ [n]) ++ r19) := map_app _ _ _
  try simp only [f24] at f1
  cases h
  rotate_left
  all_goals
    refine omega_F rfl fn40 (by rfl) (by rfl) rfl ?_
    simp (disch := first | assumption | rfl | exact Sure.mk (by kernel_rfl)) only [go_sem, coreG.down, tab.down, ↓reduceIte, Nat.reduceLeDiff, Nat.reduceEqDiff, Nat.reduceLT, Nat.reduceAdd, Nat.reduceSub, Nat.reduceMul, reduceCtorEq, Nat.reducePow, sp40_0, intE, *]
set_option maxHeartbeats 4000000 in
theorem ref20_numbers_all : (∀ p r, ref20_numbers p = some r → O.call 25 [AV.pv (PV.sl p.1.nil (szc 1 p.1.l) (List.map intE p.1.l)), AV.pv (PV.sl p.2.nil (szc 18 p.2.l) (List.map T.Snip.enc p.2.l))] [] = some (AV.pv (PV.sl r.nil (szc 1 r.l) (List.map intE r.l)), [])) ∧ (∀ p r, ref20_numbers_L0 p = some r → O.loop 25 0 ⟨[(0, AV.pv (PV.sl p.1.nil (szc 1 p.1.l) (List.map intE p.1.l))), (1, AV.pv (PV.sl p.2.1.nil (szc 18 p.2.1.l) (List.map T.Snip.enc p.2.1.l))), (5, AV.pv (PV.int IntKind.i64 p.2.2))], [], 0⟩ = some (Ex.normal, ⟨[(0, AV.pv (PV.sl r.nil (szc 1 r.l) (List.map intE r.l)))], [], 0⟩)) := by
  refine ref20_numbers.mutual_partial_correctness (fun p r => O.call 25 [AV.pv (PV.sl p.1.nil (szc 1 p.1.l) (List.map intE p.1.l)), AV.pv (PV.sl p.2.nil (szc 18 p.2.l) (List.map T.Snip.enc p.2.l))] [] = some (AV.pv (PV.sl r.nil (szc 1 r.l) (List.map intE r.l)), [])) (fun p r => O.loop 25 0 ⟨[(0, AV.pv (PV.sl p.1.nil (szc 1 p.1.l) (List.map intE p.1.l))), (1, AV.pv (PV.sl p.2.1.nil (szc 18 p.2.1.l) (List.map T.Snip.enc p.2.1.l))), (5, AV.pv (PV.int IntKind.i64 p.2.2))], [], 0⟩ = some (Ex.normal, ⟨[(0, AV.pv (PV.sl r.nil (szc 1 r.l) (List.map intE r.l)))], [], 0⟩)) ?_ ?_
  · intro ref20_numbers_L0 ih106
    rintro ⟨ns, l⟩ r h
    dsimp only at h ⊢
    obtain ⟨v2, h1, h⟩ := Option.bind_eq_some_iff.1 h
    have f1 := ih106 _ _ h1
    try dsimp only at f1
    try simp only [T.Snip.enc_eq, intE, encx.down, Nat.zero_add, Nat.reduceAdd] at f1
    cases h
    clear ih106
    rotate_left
    all_goals
      refine omega_F rfl fn25 (by rfl) (by rfl) rfl ?_
      simp (disch := first | assumption | rfl | exact Sure.mk (by kernel_rfl)) only [go_sem, coreG.down, tab.down, ↓reduceIte, Nat.reduceLeDiff, Nat.reduceEqDiff, Nat.reduceLT, Nat.reduceAdd, Nat.reduceSub, Nat.reduceMul, reduceCtorEq, Nat.reducePow, sp25_0, T.Snip.enc_eq, intE, *]
  · intro ref20_numbers ref20_numbers_L0 ih105 ih106
    rintro ⟨ns, l, i⟩ r h
    dsimp only at h ⊢
    by_cases h1 : (decide (i < (l.l.length : Int))) = true
    rw [if_pos h1] at h
    obtain ⟨x3, h2, h⟩ := Option.bind_eq_some_iff.1 h
    have f1 := geti_nat h2 IntKind.i64
    have f2 := geti_map T.Snip.enc h2
    try simp only [T.Snip.enc_eq, encx.down, Nat.zero_add, Nat.reduceAdd] at f2
    have f3 := geti_szcT h2 18
    by_cases h4 : (x3.kind == (1 : Int)) = true
    rw [if_pos h4] at h
    obtain ⟨v6, h5, h⟩ := Option.bind_eq_some_iff.1 h
    have f4 := ref20_Put_ok h5
    try simp only [intE, encx.down, Nat.zero_add, Nat.reduceAdd] at f4
    obtain ⟨v8, h7, h⟩ := Option.bind_eq_some_iff.1 h
    have f5 := ih105 _ _ h7
    try dsimp only at f5
    try simp only [T.Snip.enc_eq, intE, encx.down, Nat.zero_add, Nat.reduceAdd] at f5
    have f6 := ih106 _ _ h
    try dsimp only at f6
    try simp only [T.Snip.enc_eq, intE, encx.down, Nat.zero_add, Nat.reduceAdd] at f6
    clear h
    clear ih105 ih106
    rotate_left
    rw [if_neg h4] at h; replace h4 := Bool.eq_false_iff.2 h4
    by_cases h9 : (x3.kind == (2 : Int)) = true
    rw [if_pos h9] at h
    obtain ⟨v11, h10, h⟩ := Option.bind_eq_some_iff.1 h
    have f7 := ref20_Put_ok h10
    try simp only [intE, encx.down, Nat.zero_add, Nat.reduceAdd] at f7
    obtain ⟨v13, h12, h⟩ := Option.bind_eq_some_iff.1 h
    have f8 := ih105 _ _ h12
    try dsimp only at f8
    try simp only [T.Snip.enc_eq, intE, encx.down, Nat.zero_add, Nat.reduceAdd] at f8
    have f9 := ih106 _ _ h
    try dsimp only at f9
    try simp only [T.Snip.enc_eq, intE, encx.down, Nat.zero_add, Nat.reduceAdd] at f9
    clear h
    clear ih105 ih106
    rotate_left
    rw [if_neg h9] at h; replace h9 := Bool.eq_false_iff.2 h9
    obtain ⟨v15, h14, h⟩ := Option.bind_eq_some_iff.1 h
    have f10 := ih105 _ _ h14
    try dsimp only at f10
    try simp only [T.Snip.enc_eq, intE, encx.down, Nat.zero_add, Nat.reduceAdd] at f10
    have f11 := ih106 _ _ h
    try dsimp only at f11
    try simp only [T.Snip.enc_eq, intE, encx.down, Nat.zero_add, Nat.reduceAdd] at f11
    clear h
    clear ih105 ih106
    rotate_left
    rw [if_neg h1] at h; replace h1 := Bool.eq_false_iff.2 h1
    cases h
    clear ih105 ih106
    rotate_left
    all_goals
      refine omega_L fn25 (by rfl) ?_
      simp (disch := first | assumption | rfl | exact Sure.mk (by kernel_rfl)) only [go_sem, coreG.down, tab.down, ↓reduceIte, Nat.reduceLeDiff, Nat.reduceEqDiff, Nat.reduceLT, Nat.reduceAdd, Nat.reduceSub, Nat.reduceMul, reduceCtorEq, Nat.reducePow, sp25_0, T.Snip.enc_eq, intE, *]
set_option maxHeartbeats 4000000 in
theorem ref20_numbers_ok {ns : (Sl Int)} {l : (Sl T.Snip)} {r : ((Sl Int))} (h : ref20_numbers (ns, l) = some r) :
    O.call 25 [AV.pv (PV.sl ns.nil (szc 1 ns.l) (List.map intE ns.l)), AV.pv (PV.sl l.nil (szc 18 l.l) (List.map T.Snip.enc l.l))] [] = some (AV.pv (PV.sl r.nil (szc 1 r.l) (List.map intE r.l)), []) := ref20_numbers_all.1 (ns, l) r h
set_option maxHeartbeats 4000000 in
theorem ref20_numbers_L0_ok {ns : (Sl Int)} {l : (Sl T.Snip)} {i : Int} {r : ((Sl Int))} (h : ref20_numbers_L0 (ns, l, i) = some r) :
    O.loop 25 0 ⟨[(0, AV.pv (PV.sl ns.nil (szc 1 ns.l) (List.map intE ns.l))), (1, AV.pv (PV.sl l.nil (szc 18 l.l) (List.map T.Snip.enc l.l))), (5, AV.pv (PV.int IntKind.i64 i))], [], 0⟩ = some (Ex.normal, ⟨[(0, AV.pv (PV.sl r.nil (szc 1 r.l) (List.map intE r.l)))], [], 0⟩) := ref20_numbers_all.2 (ns, l, i) r h
set_option maxHeartbeats 4000000 in
theorem ref20_Numbers_ok {l : (Sl T.Snip)} {r : ((Sl Int))} (h : ref20_Numbers l = some r) :
    O.call 14 [AV.pv (PV.sl l.nil (szc 18 l.l) (List.map T.Snip.enc l.l))] [] = some (AV.pv (PV.sl r.nil (szc 1 r.l) (List.map intE r.l)), []) := by
  unfold ref20_Numbers at h
  obtain ⟨v2, h1, h⟩ := Option.bind_eq_some_iff.1 h
  have f1 := ref20_numbers_ok h1
  try simp only [T.Snip.enc_eq, intE, encx.down, Nat.zero_add, Nat.reduceAdd] at f1
  cases h
  rotate_left
  all_goals
    refine omega_F rfl fn14 (by rfl) (by rfl) rfl ?_
    simp (disch := first | assumption | rfl | exact Sure.mk (by kernel_rfl)) only [go_sem, coreG.down, tab.down, ↓reduceIte, Nat.reduceLeDiff, Nat.reduceEqDiff, Nat.reduceLT, Nat.reduceAdd, Nat.reduceSub, Nat.reduceMul, reduceCtorEq, Nat.reducePow, T.Snip.enc_eq, intE, *]
def law0_Ints_L0_enc : ((Bool) ⊕ (Unit)) → Ex × St
  | .inl y => (Ex.ret, ⟨[(4, AV.pv (PV.bool y))], [], 0⟩)
  | .inr y => (Ex.normal, ⟨[(4, AV.undef)], [], 0⟩)
set_option maxHeartbeats 4000000 in
theorem law0_Ints_L0_ok {a : (Sl Int)} {b : (Sl Int)} {i : Int} {r : ((Bool) ⊕ (Unit))} (h : law0_Ints_L0 (a, b, i) = some r) :
    O.loop 12 0 ⟨[(0, AV.pv (PV.sl a.nil (szc 1 a.l) (List.map intE a.l))), (1, AV.pv (PV.sl b.nil (szc 1 b.l) (List.map intE b.l))), (5, AV.pv (PV.int IntKind.i64 i))], [], 0⟩ = some (law0_Ints_L0_enc r) := by
  refine law0_Ints_L0.partial_correctness (fun p r => O.loop 12 0 ⟨[(0, AV.pv (PV.sl p.1.nil (szc 1 p.1.l) (List.map intE p.1.l))), (1, AV.pv (PV.sl p.2.1.nil (szc 1 p.2.1.l) (List.map intE p.2.1.l))), (5, AV.pv (PV.int IntKind.i64 p.2.2))], [], 0⟩ = some (law0_Ints_L0_enc r)) ?_ (a, b, i) r h
  clear h r a b i
  intro law0_Ints_L0 ih110
  rintro ⟨a, b, i⟩ r h
  dsimp only at h ⊢
  by_cases h1 : (decide (i < (a.l.length : Int))) = true
  rw [if_pos h1] at h
  obtain ⟨x3, h2, h⟩ := Option.bind_eq_some_iff.1 h
  have f1 := geti_nat h2 IntKind.i64
  have f2 := geti_map intE h2
  try simp only [intE, encx.down, Nat.zero_add, Nat.reduceAdd] at f2
  have f3 := geti_szcT h2 1
  obtain ⟨x5, h4, h⟩ := Option.bind_eq_some_iff.1 h
  have f4 := geti_nat h4 IntKind.i64
  have f5 := geti_map intE h4
  try simp only [intE, encx.down, Nat.zero_add, Nat.reduceAdd] at f5
  have f6 := geti_szcT h4 1
  by_cases h6 : (x3 != x5) = true
  rw [if_pos h6] at h
  cases h
  show _ = some (law0_Ints_L0_enc (.inl _))
  dsimp only [law0_Ints_L0_enc]
  clear ih110
  rotate_left
  rw [if_neg h6] at h; replace h6 := Bool.eq_false_iff.2 h6
  have f7 := ih110 _ _ h
  try dsimp only at f7
  try simp only [intE, encx.down, Nat.zero_add, Nat.reduceAdd] at f7
  clear h
  clear ih110
  rotate_left
  rw [if_neg h1] at h; replace h1 := Bool.eq_false_iff.2 h1
  cases h
  show _ = some (law0_Ints_L0_enc (.inr _))
  dsimp only [law0_Ints_L0_enc]
  clear ih110
  rotate_left
  all_goals
    refine omega_L fn12 (by rfl) ?_
    simp (disch := first | assumption | rfl | exact Sure.mk (by kernel_rfl)) only [go_sem, coreG.down, tab.down, ↓reduceIte, Nat.reduceLeDiff, Nat.reduceEqDiff, Nat.reduceLT, Nat.reduceAdd, Nat.reduceSub, Nat.reduceMul, reduceCtorEq, Nat.reducePow, sp12_0, intE, *]
set_option maxHeartbeats 4000000 in
theorem law0_Ints_ok {a : (Sl Int)} {b : (Sl Int)} {r : (Bool)} (h : law0_Ints a b = some r) :
    O.call 12 [AV.pv (PV.sl a.nil (szc 1 a.l) (List.map intE a.l)), AV.pv (PV.sl b.nil (szc 1 b.l) (List.map intE b.l))] [] = some (AV.pv (PV.bool r), []) := by
  unfold law0_Ints at h
  by_cases h1 : ((a.l.length : Int) != (b.l.length : Int)) = true
  rw [if_pos h1] at h
  cases h
  rotate_left
  rw [if_neg h1] at h; replace h1 := Bool.eq_false_iff.2 h1
  obtain ⟨v3, h2, h⟩ := Option.bind_eq_some_iff.1 h
  have f1 := law0_Ints_L0_ok h2
  try simp only [intE, encx.down, Nat.zero_add, Nat.reduceAdd] at f1
  rcases v3 with y4 | y5
  dsimp only at h
  simp only [law0_Ints_L0_enc, intE, encx.down, Nat.zero_add, Nat.reduceAdd] at f1
  cases h
  rotate_left
  dsimp only at h
  simp only [law0_Ints_L0_enc, intE, encx.down, Nat.zero_add, Nat.reduceAdd] at f1
  cases h
  rotate_left
  all_goals
    refine omega_F rfl fn12 (by rfl) (by rfl) rfl ?_
    simp (disch := first | assumption | rfl | exact Sure.mk (by kernel_rfl)) only [go_sem, coreG.down, tab.down, ↓reduceIte, Nat.reduceLeDiff, Nat.reduceEqDiff, Nat.reduceLT, Nat.reduceAdd, Nat.reduceSub, Nat.reduceMul, reduceCtorEq, Nat.reducePow, sp12_0, intE, *]
set_option maxHeartbeats 4000000 in
theorem law20_NodeTells_ok {s : (Sl T.Snip)} {r : (Bool)} (h : law20_NodeTells s = some r) :
    O.call 3 [AV.pv (PV.sl s.nil (szc 18 s.l) (List.map T.Snip.enc s.l))] [] = some (AV.pv (PV.bool r), []) := by
  unfold law20_NodeTells at h
  obtain ⟨v2, h1, h⟩ := Option.bind_eq_some_iff.1 h
  have f1 := law0_Snips_ok h1
  try simp only [T.Snip.enc_eq, encx.down, Nat.zero_add, Nat.reduceAdd] at f1
  by_cases h3 : (decide (v2 < (0 : Int))) = true
  rw [if_pos h3] at h
  obtain ⟨v5, h4, h⟩ := Option.bind_eq_some_iff.1 h
  have f2 := aw5_ok h4
  try simp only [encx.down, Nat.zero_add, Nat.reduceAdd] at f2
  cases h
  rotate_left
  rw [if_neg h3] at h; replace h3 := Bool.eq_false_iff.2 h3
  obtain ⟨v7, h6, h⟩ := Option.bind_eq_some_iff.1 h
  have f3 := snode_May_ok h6
  try simp only [T.Snip.enc_eq, encx.down, Nat.zero_add, Nat.reduceAdd] at f3
  obtain ⟨v9, h8, h⟩ := Option.bind_eq_some_iff.1 h
  have f4 := ref20_May_ok h8
  try simp only [T.Snip.enc_eq, encx.down, Nat.zero_add, Nat.reduceAdd] at f4
  by_cases h10 : (v7 == v9) = true
  rw [if_pos h10] at h
  obtain ⟨v12, h11, h⟩ := Option.bind_eq_some_iff.1 h
  have f5 := snode_Deep_ok h11
  try simp only [T.Snip.enc_eq, encx.down, Nat.zero_add, Nat.reduceAdd] at f5
  obtain ⟨v14, h13, h⟩ := Option.bind_eq_some_iff.1 h
  have f6 := ref20_Deep_ok h13
  try simp only [T.Snip.enc_eq, encx.down, Nat.zero_add, Nat.reduceAdd] at f6
  by_cases h15 : (v12 == v14) = true
  rw [if_pos h15] at h
  obtain ⟨v17, h16, h⟩ := Option.bind_eq_some_iff.1 h
  have f7 := snode_Parts_ok h16
  try simp only [T.Snip.enc_eq, encx.down, Nat.zero_add, Nat.reduceAdd] at f7
  obtain ⟨v19, h18, h⟩ := Option.bind_eq_some_iff.1 h
  have f8 := ref20_Parts_ok h18
  try simp only [T.Snip.enc_eq, encx.down, Nat.zero_add, Nat.reduceAdd] at f8
  by_cases h20 : (v17 == v19) = true
  rw [if_pos h20] at h
  obtain ⟨v22, h21, h⟩ := Option.bind_eq_some_iff.1 h
  have f9 := snode_Numbers_ok h21
  try simp only [T.Snip.enc_eq, intE, encx.down, Nat.zero_add, Nat.reduceAdd] at f9
  obtain ⟨v24, h23, h⟩ := Option.bind_eq_some_iff.1 h
  have f10 := ref20_Numbers_ok h23
  try simp only [T.Snip.enc_eq, intE, encx.down, Nat.zero_add, Nat.reduceAdd] at f10
  obtain ⟨v26, h25, h⟩ := Option.bind_eq_some_iff.1 h
  have f11 := law0_Ints_ok h25
  try simp only [intE, encx.down, Nat.zero_add, Nat.reduceAdd] at f11
  by_cases h27 : v26 = true
  rw [if_pos h27] at h
  obtain ⟨v29, h28, h⟩ := Option.bind_eq_some_iff.1 h
  have f12 := aw5_ok h28
  try simp only [encx.down, Nat.zero_add, Nat.reduceAdd] at f12
  try simp only [h27] at f1 f3 f4 f5 f6 f7 f8 f9 f10 f11 f12
  cases h
  rotate_left
  rw [if_neg h27] at h; replace h27 := Bool.eq_false_iff.2 h27
  try simp only [h27] at f1 f3 f4 f5 f6 f7 f8 f9 f10 f11
  cases h
  rotate_left
  rw [if_neg h20] at h; replace h20 := Bool.eq_false_iff.2 h20
  cases h
  rotate_left
  rw [if_neg h15] at h; replace h15 := Bool.eq_false_iff.2 h15
  cases h
  rotate_left
  rw [if_neg h10] at h; replace h10 := Bool.eq_false_iff.2 h10
  cases h
  rotate_left
  all_goals
    refine omega_F rfl fn3 (by rfl) (by rfl) rfl ?_
    simp (disch := first | assumption | rfl | exact Sure.mk (by kernel_rfl)) only [go_sem, coreG.down, tab.down, ↓reduceIte, Nat.reduceLeDiff, Nat.reduceEqDiff, Nat.reduceLT, Nat.reduceAdd, Nat.reduceSub, Nat.reduceMul, reduceCtorEq, Nat.reducePow, T.Snip.enc_eq, *]
end Go.Proofs.YtmlmgbnhaenabaaGreat
