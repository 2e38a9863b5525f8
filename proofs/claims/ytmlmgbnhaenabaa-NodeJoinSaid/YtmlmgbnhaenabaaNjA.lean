/-
  Trees but for which of their lists are nil: what is cloned is the same.
-/
import Derived.Test.YtmlmgbnhaenabaaNtB
set_option linter.unusedSimpArgs false
set_option linter.unusedVariables false
namespace Go.Proofs.Ytmlmgbnhaenabaa
open Go Go.Gm

theorem roomS {n b : Nat} (h : n ≤ 1073741824) (hb : b ≤ 1024) : roomOK n b = true := by
  simp only [roomOK, Bool.and_eq_true, decide_eq_true_eq]
  refine ⟨⟨?_, by omega⟩, by omega⟩
  calc n * b ≤ n * 1024 := Nat.mul_le_mul_left _ hb
    _ ≤ 2 ^ 46 := by omega
mutual
def rxN : T.Rx → T.Rx
  | ⟨k, c, n, r, a, b, z, kids⟩ => ⟨k, c, n, ⟨false, r.l⟩, a, b, z, rxNS kids⟩
def rxNS : Sl T.Rx → Sl T.Rx
  | ⟨_, l⟩ => ⟨false, rxNL l⟩
def rxNL : List T.Rx → List T.Rx
  | [] => []
  | x :: r => rxN x :: rxNL r
end
theorem rxNL_map : ∀ l : List T.Rx, rxNL l = l.map rxN
  | [] => by simp [rxNL]
  | x :: r => by simp [rxNL, rxNL_map r]
theorem rxN_eq (x : T.Rx) : rxN x = ⟨x.kind, x.char, x.not, ⟨false, x.rows.l⟩, x.min, x.max, x.lazy, ⟨false, x.kids.l.map rxN⟩⟩ := by
  cases x with | mk a b c d e f g h => cases h; simp [rxN, rxNS, rxNL_map]
def formN (f : T.Form) : T.Form := ⟨rxN f.rx, ⟨false, f.fmts.l⟩, f.fold, f.all⟩
mutual
def snN : T.Snip → T.Snip
  | ⟨k, t, n, h, u, f, o, kids⟩ => ⟨k, t, n, h, u, formN f, ⟨false, o.l⟩, snNS kids⟩
def snNS : Sl T.Snip → Sl T.Snip
  | ⟨_, l⟩ => ⟨false, snNL l⟩
def snNL : List T.Snip → List T.Snip
  | [] => []
  | x :: r => snN x :: snNL r
end
theorem snNL_map : ∀ l : List T.Snip, snNL l = l.map snN
  | [] => by simp [snNL]
  | x :: r => by simp [snNL, snNL_map r]
theorem snN_eq (x : T.Snip) : snN x = ⟨x.kind, x.text, x.n, x.has, x.turned, formN x.form, ⟨false, x.opts.l⟩, ⟨false, x.kids.l.map snN⟩⟩ := by
  cases x with | mk a b c d e f g h => cases h; simp [snN, snNS, snNL_map]

/-! What is cloned. -/
theorem cloneRow (s : Sl T.Row) (h : s.nil = true → s.l = []) (hl : s.l.length ≤ 1073741824) : ∃ r, slices_Clone_LRow s = some r ∧ r.l = s.l ∧ (r.nil = true → r.l = []) := by
  unfold slices_Clone_LRow
  cases hn : s.nil
  · rw [if_neg (by simp), if_pos (roomS hl (by omega))]; exact ⟨_, rfl, rfl, by simp⟩
  · rw [if_pos rfl]; exact ⟨_, rfl, (h hn).symm, by simp⟩
theorem cloneFmt (s : Sl T.Fmt) (h : s.nil = true → s.l = []) (hl : s.l.length ≤ 1073741824) : ∃ r, slices_Clone_LFmt s = some r ∧ r.l = s.l ∧ (r.nil = true → r.l = []) := by
  unfold slices_Clone_LFmt
  cases hn : s.nil
  · rw [if_neg (by simp), if_pos (roomS hl (by omega))]; exact ⟨_, rfl, rfl, by simp⟩
  · rw [if_pos rfl]; exact ⟨_, rfl, (h hn).symm, by simp⟩
theorem cloneStr (s : Sl Bytes) (h : s.nil = true → s.l = []) (hl : s.l.length ≤ 1073741824) : ∃ r, slices_Clone_Lstring s = some r ∧ r.l = s.l ∧ (r.nil = true → r.l = []) := by
  unfold slices_Clone_Lstring
  cases hn : s.nil
  · rw [if_neg (by simp), if_pos (roomS hl (by omega))]; exact ⟨_, rfl, rfl, by simp⟩
  · rw [if_pos rfl]; exact ⟨_, rfl, (h hn).symm, by simp⟩
theorem cloneRx : ∀ x : T.Rx, x.ok → rxW x ≤ 1073741824 → ∃ y, rxtree_Clone x = some y ∧ rxN y = rxN x ∧ y.ok := by
  apply rx_ind (P := fun x => x.ok → rxW x ≤ 1073741824 → ∃ y, rxtree_Clone x = some y ∧ rxN y = rxN x ∧ y.ok)
  intro x ih0 hok hw
  have hxo := (T.Rx.ok_eq x).1 hok
  have hk := rxW_kids x
  have hr := rxW_rows x
  obtain ⟨rw', r1, r2, r3⟩ := cloneRow x.rows hxo.2.2.2.1.1.2 (by omega)
  have key : ∀ (r : List T.Rx) (k : Nat) (a b : T.Rx) (out : List T.Rx), x.kids.l.drop k = r → out.length = k → ∃ o, rxtree_Clone_L0 (x.kids, (x.kids.l.length : Int), (k : Int), a, b, out) = some o ∧ o.map rxN = out.map rxN ++ r.map rxN ∧ ((∀ y ∈ out, T.Rx.ok y) → ∀ y ∈ o, T.Rx.ok y) := by
    intro r
    induction r with
    | nil =>
      intro k a b out hd _
      rw [rxtree_Clone_L0.eq_1, if_neg (by simpa using dropN hd)]
      exact ⟨out, rfl, by simp, fun h => h⟩
    | cons y r ih =>
      intro k a b out hd hout
      obtain ⟨a1, a2, a3, a4⟩ := dropC hd
      obtain ⟨z, z1, z2, z3⟩ := ih0 y a4 (hxo.2.2.2.2.2.2.2.1.2 y a4) (by have := rxW_kid a4; omega)
      obtain ⟨o, o1, o2, o3⟩ := ih (k + 1) a b (out ++ [z]) a3 (by simp [hout])
      rw [rxtree_Clone_L0.eq_1]
      simp only [a1, decide_true, if_true, a2, Option.bind_eq_bind, Option.bind_some, z1, wrS (by omega) a1, roomS (show out.length + 1 ≤ 1073741824 by omega) (show 104 ≤ 1024 by omega)]
      exact ⟨o, o1, by rw [o2]; simp [z2], fun h => o3 (fun w hw => by
        rcases List.mem_append.1 hw with hw | hw
        · exact h w hw
        · simp at hw; subst hw; exact z3)⟩
  rw [rxtree_Clone.eq_1]
  simp only [r1, Option.bind_eq_bind, Option.bind_some]
  obtain ⟨o, o1, o2, o3⟩ := key x.kids.l 0 _ _ [] rfl rfl
  rw [show ((0 : Nat) : Int) = 0 from rfl] at o1
  rw [o1]
  have hol : o.length = x.kids.l.length := by simpa using congrArg List.length o2
  refine ⟨_, rfl, ?_, ?_⟩
  · rw [rxN_eq, rxN_eq x]
    simp only [r2, o2, List.map_nil, List.nil_append]
  · rw [T.Rx.ok_eq]
    refine ⟨hxo.1, hxo.2.1, hxo.2.2.1, ⟨⟨by rw [r2]; exact hxo.2.2.2.1.1.1, r3⟩, by rw [r2]; exact hxo.2.2.2.1.2⟩, hxo.2.2.2.2.1, hxo.2.2.2.2.2.1, hxo.2.2.2.2.2.2.1, ⟨⟨?_, by simp⟩, o3 (by simp)⟩, trivial⟩
    simp only; rw [hol]; exact hxo.2.2.2.2.2.2.2.1.1.1
theorem cloneForm (f : T.Form) (hok : T.Form.ok f) (hw : formW f ≤ 1073741824) : ∃ y, xform_Clone f = some y ∧ formN y = formN f ∧ T.Form.ok y := by
  obtain ⟨x, x1, x2, x3⟩ := cloneRx f.rx hok.1 (by unfold formW at hw; omega)
  obtain ⟨fs, f1, f2, f3⟩ := cloneFmt f.fmts hok.2.1.1.2 (by have := formW_fmts f; omega)
  refine ⟨⟨x, fs, f.fold, f.all⟩, ?_, ?_, x3, ⟨⟨by simp only; rw [f2]; exact hok.2.1.1.1, f3⟩, by simp only; rw [f2]; exact hok.2.1.2⟩, hok.2.2⟩
  · unfold xform_Clone
    simp only [x1, f1, Option.bind_eq_bind, Option.bind_some]
  · simp only [formN, x2, f2]
/-- One part's clone. -/
def ClonesTo (x y : T.Snip) : Prop := snN y = snN x
theorem cloneList (l : Sl T.Snip) (hok : slOk T.Snip.ok l) (hw : sumN (l.l.map snW) ≤ 1073741823) (ih0 : ∀ x ∈ l.l, ∃ y, snode_Clone x.kids = some y ∧ y.l.map snN = x.kids.l.map snN ∧ slOk T.Snip.ok y) :
    ∃ y, snode_Clone l = some y ∧ y.l.map snN = l.l.map snN ∧ slOk T.Snip.ok y := by
  have hlen : l.l.length ≤ 1073741823 := by have := sumN_len snW_pos l.l; omega
  have key : ∀ (r : List T.Snip) (k : Nat) (out : List T.Snip), l.l.drop k = r → out.length = k → ∃ o, snode_Clone_L0 (l, (l.l.length : Int), (k : Int), out) = some o ∧ o.map snN = out.map snN ++ r.map snN ∧ ((∀ y ∈ out, T.Snip.ok y) → ∀ y ∈ o, T.Snip.ok y) := by
    intro r
    induction r with
    | nil =>
      intro k out hd _
      rw [snode_Clone_L0.eq_1, if_neg (by simpa using dropN hd)]
      exact ⟨out, rfl, by simp, fun h => h⟩
    | cons x r ih =>
      intro k out hd hout
      obtain ⟨a1, a2, a3, a4⟩ := dropC hd
      have hxo := (T.Snip.ok_eq x).1 (hok.2 x a4)
      have hxw := sumN_map_mem (f := snW) a4
      have hxe := snW_form x
      have hxp := snW_opts x
      obtain ⟨f, f1, f2, f3⟩ := cloneForm x.form hxo.2.2.2.2.2.1 (by omega)
      obtain ⟨os, p1, p2, p3⟩ := cloneStr x.opts hxo.2.2.2.2.2.2.1.1.2 (by omega)
      obtain ⟨ks, q1, q2, q3⟩ := ih0 x a4
      obtain ⟨o, o1, o2, o3⟩ := ih (k + 1) (out ++ [⟨x.kind, x.text, x.n, x.has, x.turned, f, os, ks⟩]) a3 (by simp [hout])
      rw [snode_Clone_L0.eq_1]
      simp only [a1, decide_true, if_true, a2, Option.bind_eq_bind, Option.bind_some, f1, p1, q1, wrS (by omega) a1, roomS (show out.length + 1 ≤ 1073741824 by omega) (show 224 ≤ 1024 by omega)]
      refine ⟨o, o1, ?_, fun h => o3 (fun w hw => ?_)⟩
      · rw [o2, List.map_append, List.map_cons, List.map_nil, List.map_cons, snN_eq x, snN_eq]
        simp only [f2, p2, q2, List.append_assoc, List.singleton_append]
      · rcases List.mem_append.1 hw with hw | hw
        · exact h w hw
        · simp at hw
          subst hw
          rw [T.Snip.ok_eq]
          exact ⟨hxo.1, hxo.2.1, hxo.2.2.1, hxo.2.2.2.1, hxo.2.2.2.2.1, f3, ⟨⟨by simp only; rw [p2]; exact hxo.2.2.2.2.2.2.1.1.1, p3⟩, by simp only; rw [p2]; exact hxo.2.2.2.2.2.2.1.2⟩, q3, trivial⟩
  rw [snode_Clone.eq_1]
  obtain ⟨o, o1, o2, o3⟩ := key l.l 0 [] rfl rfl
  rw [show ((0 : Nat) : Int) = 0 from rfl] at o1
  have hol : o.length = l.l.length := by simpa using congrArg List.length o2
  exact ⟨⟨o.isEmpty, o⟩, by simp [o1], by simpa using o2, ⟨by simp only; rw [hol]; exact hok.1.1, by simp⟩, o3 (by simp)⟩
theorem cloneSn : ∀ x : T.Snip, x.ok → snW x ≤ 1073741823 → ∃ y, snode_Clone x.kids = some y ∧ y.l.map snN = x.kids.l.map snN ∧ slOk T.Snip.ok y := by
  apply sn_ind (P := fun x => x.ok → snW x ≤ 1073741823 → ∃ y, snode_Clone x.kids = some y ∧ y.l.map snN = x.kids.l.map snN ∧ slOk T.Snip.ok y)
  intro x ih hok hw
  have hxo := (T.Snip.ok_eq x).1 hok
  have hsw := snW_eq x
  exact cloneList x.kids hxo.2.2.2.2.2.2.2.1 (by omega) fun y hy => ih y hy (hxo.2.2.2.2.2.2.2.1.2 y hy) (by have := snW_kid hy; omega)
theorem clone_ok (l : Sl T.Snip) (hok : slOk T.Snip.ok l) (hw : sumN (l.l.map snW) ≤ 1073741823) : ∃ y, snode_Clone l = some y ∧ y.l.map snN = l.l.map snN ∧ slOk T.Snip.ok y :=
  cloneList l hok hw fun x hx => cloneSn x (hok.2 x hx) (by have := sumN_map_mem (f := snW) hx; omega)

/-! What is the same but for nil lists is the Same. -/
theorem eqRows (a b : Sl T.Row) (h : a.l = b.l) (hl : a.l.length ≤ 1073741824) : slices_Equal_LRow a b = some true := by
  have key : ∀ (r : List T.Row) (k : Nat), a.l.drop k = r → slices_Equal_LRow_L0 (a, b, (a.l.length : Int), (k : Int)) = some (.inr ()) := by
    intro r
    induction r with
    | nil =>
      intro k hd
      rw [slices_Equal_LRow_L0.eq_1, if_neg (by simpa using dropN hd)]
    | cons x r ih =>
      intro k hd
      obtain ⟨a1, a2, a3, _⟩ := dropC hd
      rw [slices_Equal_LRow_L0.eq_1]
      simp only [a1, decide_true, if_true, a2, ← h, Option.bind_eq_bind, Option.bind_some, wrS (by omega) a1, ih (k + 1) a3, beq_self_eq_true, Bool.and_self, Bool.not_true, Bool.false_eq_true, if_false]
  unfold slices_Equal_LRow
  have := key a.l 0 rfl
  rw [show ((0 : Nat) : Int) = 0 from rfl] at this
  rw [if_neg (by simp [h]), this]; rfl
theorem eqFmts (a b : Sl T.Fmt) (h : a.l = b.l) (hl : a.l.length ≤ 1073741824) : slices_Equal_LFmt a b = some true := by
  have key : ∀ (r : List T.Fmt) (k : Nat), a.l.drop k = r → slices_Equal_LFmt_L0 (a, b, (a.l.length : Int), (k : Int)) = some (.inr ()) := by
    intro r
    induction r with
    | nil =>
      intro k hd
      rw [slices_Equal_LFmt_L0.eq_1, if_neg (by simpa using dropN hd)]
    | cons x r ih =>
      intro k hd
      obtain ⟨a1, a2, a3, _⟩ := dropC hd
      rw [slices_Equal_LFmt_L0.eq_1]
      simp only [a1, decide_true, if_true, a2, ← h, Option.bind_eq_bind, Option.bind_some, wrS (by omega) a1, ih (k + 1) a3, beq_self_eq_true, Bool.and_self, Bool.not_true, Bool.false_eq_true, if_false]
  unfold slices_Equal_LFmt
  have := key a.l 0 rfl
  rw [show ((0 : Nat) : Int) = 0 from rfl] at this
  rw [if_neg (by simp [h]), this]; rfl
theorem eqStrs (a b : Sl Bytes) (h : a.l = b.l) (hl : a.l.length ≤ 1073741824) : slices_Equal_Lstring a b = some true := by
  have key : ∀ (r : List Bytes) (k : Nat), a.l.drop k = r → slices_Equal_Lstring_L0 (a, b, (a.l.length : Int), (k : Int)) = some (.inr ()) := by
    intro r
    induction r with
    | nil =>
      intro k hd
      rw [slices_Equal_Lstring_L0.eq_1, if_neg (by simpa using dropN hd)]
    | cons x r ih =>
      intro k hd
      obtain ⟨a1, a2, a3, _⟩ := dropC hd
      rw [slices_Equal_Lstring_L0.eq_1]
      simp only [a1, decide_true, if_true, a2, ← h, Option.bind_eq_bind, Option.bind_some, wrS (by omega) a1, ih (k + 1) a3, beq_self_eq_true, Bool.and_self, Bool.not_true, Bool.false_eq_true, if_false]
  unfold slices_Equal_Lstring
  have := key a.l 0 rfl
  rw [show ((0 : Nat) : Int) = 0 from rfl] at this
  rw [if_neg (by simp [h]), this]; rfl
theorem eqRx : ∀ a : T.Rx, rxW a ≤ 1073741824 → ∀ b, rxN a = rxN b → rxtree_Same (a, b) = some true := by
  apply rx_ind (P := fun a => rxW a ≤ 1073741824 → ∀ b, rxN a = rxN b → rxtree_Same (a, b) = some true)
  intro a ih0 hw b hab
  rw [rxN_eq, rxN_eq b] at hab
  simp only [T.Rx.mk.injEq, Sl.mk.injEq, true_and] at hab
  obtain ⟨e1, e2, e3, e4, e5, e6, e7, e8⟩ := hab
  have hk := rxW_kids a
  have hlen : a.kids.l.length = b.kids.l.length := by simpa using congrArg List.length e8
  have key : ∀ (r : List T.Rx) (k : Nat), a.kids.l.drop k = r → slices_EqualFunc_LRx_rxtree_Same_L0 (b.kids, a.kids, (a.kids.l.length : Int), (k : Int)) = some (.inr ()) := by
    intro r
    induction r with
    | nil =>
      intro k hd
      rw [slices_EqualFunc_LRx_rxtree_Same_L0.eq_1, if_neg (by simpa using dropN hd)]
    | cons x r ih =>
      intro k hd
      obtain ⟨a1, a2, a3, a4⟩ := dropC hd
      have hb : k < b.kids.l.length := by omega
      have hxy : rxN x = rxN b.kids.l[k] := by
        have h := congrArg (fun l => l[k]?) e8
        simp only [List.getElem?_map] at h
        have hx := geti_at a2
        simp only [Int.toNat_natCast] at hx
        rw [hx, List.getElem?_eq_getElem hb] at h
        simpa using h
      rw [slices_EqualFunc_LRx_rxtree_Same_L0.eq_1]
      simp only [a1, decide_true, if_true, a2, geti_some hb, Option.bind_eq_bind, Option.bind_some, ih0 x a4 (by have := rxW_kid a4; omega) _ hxy, wrS (by omega) a1, ih (k + 1) a3, Bool.not_true, Bool.false_eq_true, if_false]
  have h0 := key a.kids.l 0 rfl
  rw [show ((0 : Nat) : Int) = 0 from rfl] at h0
  have h1 : slices_EqualFunc_LRx_rxtree_Same (a.kids, b.kids) = some true := by
    rw [slices_EqualFunc_LRx_rxtree_Same.eq_1, if_neg (by simp [hlen]), h0]; rfl
  rw [rxtree_Same.eq_1]
  simp only [e1, e2, e3, e5, e6, e7, beq_self_eq_true, Bool.and_self, if_true, eqRows a.rows b.rows e4 (by have := rxW_rows a; omega), h1, Option.bind_eq_bind, Option.bind_some]
theorem eqForm (f g : T.Form) (hw : formW f ≤ 1073741824) (h : formN f = formN g) : xform_Same f g = some true := by
  unfold formN at h
  simp only [T.Form.mk.injEq, Sl.mk.injEq, true_and] at h
  unfold xform_Same
  simp only [eqRx f.rx (by unfold formW at hw; omega) g.rx h.1, eqFmts f.fmts g.fmts h.2.1 (by have := formW_fmts f; omega), h.2.2.1, h.2.2.2, Option.bind_eq_bind, Option.bind_some, beq_self_eq_true, Bool.and_self, if_true]
theorem eqList (a b : Sl T.Snip) (hw : sumN (a.l.map snW) ≤ 1073741823) (h : a.l.map snN = b.l.map snN) (ih0 : ∀ x ∈ a.l, ∀ y, snN x = snN y → snode_Same (x.kids, y.kids) = some true) : snode_Same (a, b) = some true := by
  have hlen : a.l.length = b.l.length := by simpa using congrArg List.length h
  have hal : a.l.length ≤ 1073741823 := by have := sumN_len snW_pos a.l; omega
  have same : ∀ x ∈ a.l, ∀ y, snN x = snN y → snode_same (x, y) = some true := by
    intro x hx y hxy
    have hk := ih0 x hx y hxy
    rw [snN_eq, snN_eq y] at hxy
    simp only [T.Snip.mk.injEq, Sl.mk.injEq, true_and] at hxy
    obtain ⟨e1, e2, e3, e4, e5, e6, e7, e8⟩ := hxy
    have hxw := sumN_map_mem (f := snW) hx
    have hf := snW_form x
    have ho := snW_opts x
    rw [snode_same.eq_1]
    simp only [e1, e2, e3, e4, e5, beq_self_eq_true, Bool.and_self, if_true, eqForm x.form y.form (by omega) e6, eqStrs x.opts y.opts e7 (by omega), hk, Option.bind_eq_bind, Option.bind_some]
  have key : ∀ (r : List T.Snip) (k : Nat), a.l.drop k = r → slices_EqualFunc_LSnip_snode_same_L0 (b, a, (a.l.length : Int), (k : Int)) = some (.inr ()) := by
    intro r
    induction r with
    | nil =>
      intro k hd
      rw [slices_EqualFunc_LSnip_snode_same_L0.eq_1, if_neg (by simpa using dropN hd)]
    | cons x r ih =>
      intro k hd
      obtain ⟨a1, a2, a3, a4⟩ := dropC hd
      have hb : k < b.l.length := by omega
      have hxy : snN x = snN b.l[k] := by
        have h := congrArg (fun l => l[k]?) h
        simp only [List.getElem?_map] at h
        have hx := geti_at a2
        simp only [Int.toNat_natCast] at hx
        rw [hx, List.getElem?_eq_getElem hb] at h
        simpa using h
      rw [slices_EqualFunc_LSnip_snode_same_L0.eq_1]
      simp only [a1, decide_true, if_true, a2, geti_some hb, Option.bind_eq_bind, Option.bind_some, same x a4 _ hxy, wrS (by omega) a1, ih (k + 1) a3, Bool.not_true, Bool.false_eq_true, if_false]
  have h0 := key a.l 0 rfl
  rw [show ((0 : Nat) : Int) = 0 from rfl] at h0
  rw [snode_Same.eq_1, slices_EqualFunc_LSnip_snode_same.eq_1, if_neg (by simp [hlen]), h0]; rfl
theorem eqSn : ∀ x : T.Snip, snW x ≤ 1073741823 → ∀ y, snN x = snN y → snode_Same (x.kids, y.kids) = some true := by
  apply sn_ind (P := fun x => snW x ≤ 1073741823 → ∀ y, snN x = snN y → snode_Same (x.kids, y.kids) = some true)
  intro x ih hw y hxy
  rw [snN_eq, snN_eq y] at hxy
  simp only [T.Snip.mk.injEq, Sl.mk.injEq, true_and] at hxy
  have hsw := snW_eq x
  exact eqList x.kids y.kids (by omega) hxy.2.2.2.2.2.2.2 fun z hz w => ih z hz (by have := snW_kid hz; omega) w
theorem same_ok (a b : Sl T.Snip) (hw : sumN (a.l.map snW) ≤ 1073741823) (h : a.l.map snN = b.l.map snN) : snode_Same (a, b) = some true :=
  eqList a b hw h fun x hx => eqSn x (by have := sumN_map_mem (f := snW) hx; omega)
end Go.Proofs.Ytmlmgbnhaenabaa
