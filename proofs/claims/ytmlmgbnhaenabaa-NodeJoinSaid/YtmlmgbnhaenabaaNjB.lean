/-
  Joined, a list's texts are the same, one behind the other; no two stand side by side, none is empty; all other parts stay; joined again it is the same.
-/
import Derived.Test.YtmlmgbnhaenabaaNjA
set_option linter.unusedSimpArgs false
set_option linter.unusedVariables false
namespace Go.Proofs.Ytmlmgbnhaenabaa
open Go Go.Gm

/-- A text. -/
def txt (t : Bytes) : T.Snip := T.Snip.mk (0 : Int) t (0 : Int) false false (T.Form.mk (T.Rx.mk (0 : Int) ([] : Bytes) false (⟨true, ([] : List T.Row)⟩ : (Sl T.Row)) (0 : Int) (0 : Int) false (⟨true, ([] : List T.Rx)⟩ : (Sl T.Rx))) (⟨true, ([] : List T.Fmt)⟩ : (Sl T.Fmt)) false false) (⟨true, ([] : List Bytes)⟩ : (Sl Bytes)) (⟨true, ([] : List T.Snip)⟩ : (Sl T.Snip))
def flush (t : Bytes) : List T.Snip := if t = [] then [] else [txt t]
/-- What is joined. -/
def joinS (out : List T.Snip) (t : Bytes) : List T.Snip → List T.Snip
  | [] => out ++ flush t
  | x :: r => if x.kind = 0 then joinS out (t ++ x.text) r else joinS ((out ++ flush t) ++ [x]) [] r
theorem snN_kind (x : T.Snip) : (snN x).kind = x.kind := by rw [snN_eq]
theorem snN_text (x : T.Snip) : (snN x).text = x.text := by rw [snN_eq]
theorem snN_txt (t : Bytes) : snN (snN (txt t)) = snN (txt t) := by rw [snN_eq, snN_eq (txt t)]; simp [txt, formN, rxN_eq]
theorem snN_snN : ∀ x, snN (snN x) = snN x := by
  have hrx : ∀ x, rxN (rxN x) = rxN x := by
    apply rx_ind
    intro x ih
    rw [rxN_eq, rxN_eq x]
    simp only [List.map_map, T.Rx.mk.injEq, Sl.mk.injEq, true_and]
    exact List.map_congr_left fun y hy => ih y hy
  apply sn_ind
  intro x ih
  rw [snN_eq, snN_eq x]
  simp only [formN, hrx, List.map_map, T.Snip.mk.injEq, Sl.mk.injEq, true_and]
  exact List.map_congr_left fun y hy => ih y hy
theorem joinS_norm : ∀ (a b out out' : List T.Snip) (t : Bytes), a.map snN = b.map snN → out.map snN = out'.map snN → (joinS out t a).map snN = (joinS out' t b).map snN
  | [], [], out, out', t, _, ho => by simp [joinS, ho]
  | [], y :: b, _, _, _, h, _ => by simp at h
  | x :: a, [], _, _, _, h, _ => by simp at h
  | x :: a, y :: b, out, out', t, h, ho => by
    simp only [List.map_cons, List.cons.injEq] at h
    have hk : x.kind = y.kind := by rw [← snN_kind x, ← snN_kind y, h.1]
    have ht : x.text = y.text := by rw [← snN_text x, ← snN_text y, h.1]
    simp only [joinS, hk, ht]
    split
    · exact joinS_norm a b out out' _ h.2 ho
    · exact joinS_norm a b _ _ [] h.2 (by simp [ho, h.1])

theorem txt_ok (t : Bytes) (h : t.length ≤ maxLen) : (txt t).ok := by
  rw [T.Snip.ok_eq]
  refine ⟨by simp [txt, inI], h, by simp [txt, inI], trivial, trivial, ?_, ?_, ?_, trivial⟩
  · refine ⟨?_, ?_, trivial, trivial, trivial⟩
    · rw [T.Rx.ok_eq]
      exact ⟨by simp [txt, inI], by simp [txt, strOk], trivial, by simp [txt, slOk], by simp [txt, inI], by simp [txt, inI], trivial, by simp [txt, slOk], trivial⟩
    · simp [txt, slOk]
  · simp [txt, slOk]
  · simp [txt, slOk]
theorem rxW_norm : ∀ x, rxW (rxN x) = rxW x := by
  apply rx_ind
  intro x ih
  rw [rxW_eq, rxW_eq x, rxN_eq]
  simp only [List.map_map]
  congr 2
  exact List.map_congr_left ih
theorem snW_norm : ∀ x, snW (snN x) = snW x := by
  apply sn_ind
  intro x ih
  rw [snW_eq, snW_eq x, snN_eq]
  simp only [List.map_map, formN, formW, rxW_norm]
  congr 2
  exact List.map_congr_left ih
theorem snW_map {a b : List T.Snip} (h : a.map snN = b.map snN) : a.map snW = b.map snW := by
  have := congrArg (List.map snW) h
  simpa [List.map_map, Function.comp_def, snW_norm] using this
theorem snW_txt (t : Bytes) : snW (txt t) = 2 + t.length := by
  rw [snW_eq]
  have h4 : formW (txt t).form = 1 := by simp [formW, txt, rxW_eq, sumN]
  rw [h4]
  simp [txt, sumN]
  omega

/-- The program's. -/
theorem join_L0 (l : Sl T.Snip) (hl : l.l.length ≤ 1000) : ∀ (r : List T.Snip) (k : Nat) (out : List T.Snip) (t : Bytes), l.l.drop k = r → k ≤ l.l.length → out.length ≤ 2 * k → t.length + sumN (r.map fun x => x.text.length) ≤ 100000 →
    (∀ y ∈ l.l, T.Snip.ok y) → (∀ y ∈ out, T.Snip.ok y) →
    ∃ o u, snode_Join_L0 (l, (l.l.length : Int), (k : Int), out, t) = some (o, u) ∧ o ++ flush u = joinS out t r ∧ o.length ≤ 2 * l.l.length ∧ (∀ y ∈ o, T.Snip.ok y) ∧ u.length ≤ 100000 := by
  intro r
  induction r with
  | nil =>
    intro k out t hd hkl ho ht hla hoa
    have := drop_none hd
    rw [snode_Join_L0.eq_1, if_neg (by simpa using dropN hd)]
    exact ⟨out, t, rfl, by simp [joinS], by omega, hoa, by omega⟩
  | cons x r ih =>
    intro k out t hd hkl ho ht hla hoa
    obtain ⟨a1, a2, a3, a4⟩ := dropC hd
    simp only [List.map_cons, sumN] at ht
    rw [snode_Join_L0.eq_1]
    simp only [a1, decide_true, if_true, a2, Option.bind_eq_bind, Option.bind_some, wrS (by omega) a1]
    by_cases hk : x.kind = 0
    · have hb : (x.kind == 0) = true := by simpa using hk
      simp only [hb, if_true, joinS, if_pos hk]
      cases he : (t.isEmpty && x.text.isEmpty)
      · obtain ⟨o, u, o1, o2, o3⟩ := ih (k + 1) out (t ++ x.text) a3 (by omega) (by omega) (by simp; omega) hla hoa
        refine ⟨o, u, ?_, o2, o3⟩
        rw [if_neg (by simp), if_pos (roomS (by omega) (by omega))]
        exact o1
      · simp only [Bool.and_eq_true, List.isEmpty_iff] at he
        obtain ⟨o, u, o1, o2, o3⟩ := ih (k + 1) out t a3 (by omega) (by omega) (by omega) hla hoa
        refine ⟨o, u, ?_, ?_, o3⟩
        · rw [if_pos rfl]; exact o1
        · rw [o2, he.1, he.2]; rfl
    · have hb : (x.kind == 0) = false := by simpa using hk
      simp only [hb, Bool.false_eq_true, if_false, joinS, if_neg hk]
      unfold snode_Join_1
      cases t with
      | nil =>
        obtain ⟨o, u, o1, o2, o3⟩ := ih (k + 1) (out ++ [x]) [] a3 (by omega) (by simp; omega) (by simp; omega) hla (fun y hy => by
          rcases List.mem_append.1 hy with hy | hy
          · exact hoa y hy
          · simp at hy; subst hy; exact hla y a4)
        refine ⟨o, u, ?_, by simpa [flush] using o2, o3⟩
        simp only [List.length_nil, Int.natCast_zero, gt_iff_lt, Int.lt_irrefl, decide_false, Bool.false_eq_true, if_false, Option.bind_some, roomS (show out.length + 1 ≤ 1073741824 by omega) (show 224 ≤ 1024 by omega), if_true]
        exact o1
      | cons c t =>
        obtain ⟨o, u, o1, o2, o3⟩ := ih (k + 1) ((out ++ [txt (c :: t)]) ++ [x]) [] a3 (by omega) (by simp; omega) (by simp; omega) hla (fun y hy => by
          rcases List.mem_append.1 hy with hy | hy
          · rcases List.mem_append.1 hy with hy | hy
            · exact hoa y hy
            · simp at hy; subst hy; exact txt_ok _ (Nat.le_trans (show (c :: t).length ≤ 1000000 by omega) (by decide))
          · simp at hy; subst hy; exact hla y a4)
        refine ⟨o, u, ?_, by simpa [flush] using o2, o3⟩
        have hpos : decide (((c :: t).length : Int) > 0) = true := by simp
        simp only [hpos, if_true, roomS (show out.length + 1 ≤ 1073741824 by omega) (show 224 ≤ 1024 by omega), Option.bind_some]
        rw [if_pos (roomS (by simp; omega) (by omega))]
        exact o1
theorem join_ok (l : Sl T.Snip) (hok : slOk T.Snip.ok l) (hw : sumN (l.l.map snW) ≤ 10000) (hl : l.l.length ≤ 1000) : ∃ o, snode_Join l = some o ∧ o.l.map snN = (joinS [] [] l.l).map snN ∧ slOk T.Snip.ok o := by
  obtain ⟨c, c1, c2, c3⟩ := clone_ok l hok (by omega)
  have hcl : c.l.length = l.l.length := by simpa using congrArg List.length c2
  have hct : sumN (c.l.map fun x => x.text.length) ≤ 10000 := by
    have e : c.l.map (fun x => x.text.length) = l.l.map (fun x => x.text.length) := by
      have := congrArg (List.map (fun x : T.Snip => x.text.length)) c2
      simpa [List.map_map, Function.comp_def, snN_text] using this
    rw [e]
    have : ∀ m : List T.Snip, sumN (m.map fun x => x.text.length) ≤ sumN (m.map snW) := by
      intro m
      induction m with
      | nil => simp [sumN]
      | cons x m ih => have := snW_text x; simp only [List.map_cons, sumN]; omega
    have := this l.l
    omega
  obtain ⟨o, u, o1, o2, o3, o4, o5⟩ := join_L0 c (by omega) c.l 0 [] [] rfl (by omega) (by simp) (by simp; omega) c3.2 (by simp)
  have hbig : (1000000 : Nat) ≤ maxLen := by decide
  rw [show ((0 : Nat) : Int) = 0 from rfl] at o1
  have hj := joinS_norm c.l l.l [] [] [] c2 rfl
  rw [← o2] at hj
  unfold snode_Join snode_Join_1
  simp only [c1, o1, Option.bind_eq_bind, Option.bind_some]
  cases u with
  | nil => exact ⟨⟨o.isEmpty, o⟩, by simp, by simpa [flush] using hj, ⟨by simp only; omega, by simp⟩, o4⟩
  | cons b u =>
    have hpos : decide (((b :: u).length : Int) > 0) = true := by simp
    refine ⟨⟨(o ++ [txt (b :: u)]).isEmpty, o ++ [txt (b :: u)]⟩, ?_, by simpa [flush] using hj, ⟨by simp only [List.length_append, List.length_cons, List.length_nil]; omega, by simp⟩, fun y hy => ?_⟩
    rotate_left
    · rcases List.mem_append.1 hy with hy | hy
      · exact o4 y hy
      · simp at hy; subst hy; exact txt_ok _ (by omega)
    rw [if_pos hpos, if_pos (roomS (by omega) (by omega))]
    rfl

/-- What is put in: plain texts, other parts as they are. -/
def plain (x : T.Snip) : T.Snip := if x.kind = 0 then txt x.text else x
theorem plain_kind (x : T.Snip) : (plain x).kind = x.kind := by unfold plain; split <;> simp_all [txt]
theorem plain_text (x : T.Snip) : (plain x).text = x.text := by unfold plain; split <;> simp_all [txt]
def textsOf (l : List T.Snip) : Bytes := l.flatMap fun x => if x.kind = 0 then x.text else []
def othersOf (l : List T.Snip) : Nat := (l.filter fun x => !decide (x.kind = 0)).length
theorem in_L0 (s : Sl T.Snip) (hl : s.l.length ≤ 1000) : ∀ (r : List T.Snip) (k : Nat) (all : Bytes) (n : Nat) (o : List T.Snip), s.l.drop k = r → o.length = k → n ≤ k → all.length + sumN (r.map fun x => x.text.length) ≤ 100000 →
    law20_NodeJoin_L0 (s, all, (n : Int), (k : Int), o) = some (all ++ textsOf r, ((n + othersOf r : Nat) : Int), o ++ r.map plain) := by
  intro r
  induction r with
  | nil =>
    intro k all n o hd _ _ _
    rw [law20_NodeJoin_L0.eq_1, if_neg (by simpa using dropN hd)]
    simp [textsOf, othersOf]
  | cons x r ih =>
    intro k all n o hd ho hn ht
    obtain ⟨a1, a2, a3, _⟩ := dropC hd
    simp only [List.map_cons, sumN] at ht
    rw [law20_NodeJoin_L0.eq_1]
    simp only [a1, decide_true, if_true, a2, Option.bind_eq_bind, Option.bind_some, wrS (by omega) a1, roomS (show o.length + 1 ≤ 1073741824 by omega) (show 224 ≤ 1024 by omega), law20_text]
    by_cases hk : x.kind = 0
    · have hb : (x.kind == 0) = true := by simpa using hk
      have hr : all.length + x.text.length ≤ 2 ^ 62 := by omega
      simp only [hb, if_true, hr]
      have h := ih (k + 1) (all ++ x.text) n (o ++ [txt x.text]) a3 (by simp [ho]) (by omega) (by simp; omega)
      refine h.trans ?_
      simp [textsOf, othersOf, hk, plain]
    · have hb : (x.kind == 0) = false := by simpa using hk
      have e : IntKind.i64.wrap ((n : Int) + 1) = ((n + 1 : Nat) : Int) := by rw [wr (by omega) (by omega)]; omega
      simp only [hb, Bool.false_eq_true, if_false, e]
      have h := ih (k + 1) all (n + 1) (o ++ [x]) a3 (by simp [ho]) (by omega) (by omega)
      refine h.trans ?_
      simp [textsOf, othersOf, hk, plain]
      omega

/-- Clean: no empty text, no two side by side. -/
def Clean : List T.Snip → Prop
  | [] => True
  | [x] => x.kind = 0 → x.text ≠ []
  | x :: y :: r => (x.kind = 0 → x.text ≠ [] ∧ y.kind ≠ 0) ∧ Clean (y :: r)
theorem clean_snoc : ∀ (l : List T.Snip) (x : T.Snip), Clean l → (x.kind = 0 → x.text ≠ []) → (∀ y, l.getLast? = some y → x.kind = 0 → y.kind ≠ 0) → Clean (l ++ [x])
  | [], x, _, hx, _ => hx
  | [a], x, ha, hx, hl => ⟨fun h => ⟨ha h, fun hk => hl a rfl hk h⟩, hx⟩
  | a :: b :: l, x, ha, hx, hl => ⟨ha.1, clean_snoc (b :: l) x ha.2 hx (fun y hy => hl y (by simpa using hy))⟩
theorem clean_flush (out : List T.Snip) (t : Bytes) (hc : Clean out) (hl : ∀ y, out.getLast? = some y → y.kind ≠ 0) : Clean (out ++ flush t) := by
  unfold flush
  split
  · simpa using hc
  · rename_i h
    exact clean_snoc out _ hc (fun _ => h) (fun y hy _ => hl y hy)
theorem clean_join : ∀ (r out : List T.Snip) (t : Bytes), Clean out → (∀ y, out.getLast? = some y → y.kind ≠ 0) → Clean (joinS out t r)
  | [], out, t, hc, hl => clean_flush out t hc hl
  | x :: r, out, t, hc, hl => by
    unfold joinS
    split
    · exact clean_join r out _ hc hl
    · rename_i hk
      exact clean_join r _ [] (clean_snoc _ x (clean_flush out t hc hl) (fun h => absurd h hk) (fun _ _ h => absurd h hk)) (fun y hy => by simp at hy; subst hy; exact hk)
theorem texts_join : ∀ (r out : List T.Snip) (t : Bytes), textsOf (joinS out t r) = textsOf out ++ t ++ textsOf r
  | [], out, t => by
    unfold joinS flush
    split
    · rename_i h; subst h; simp [textsOf]
    · simp [textsOf, txt]
  | x :: r, out, t => by
    unfold joinS
    split
    · rename_i hk
      rw [texts_join r]
      simp [textsOf, hk]
    · rename_i hk
      rw [texts_join r]
      unfold flush
      split
      · rename_i h; subst h; simp [textsOf, hk]
      · simp [textsOf, hk, txt]
theorem others_join : ∀ (r out : List T.Snip) (t : Bytes), othersOf (joinS out t r) = othersOf out + othersOf r
  | [], out, t => by
    unfold joinS flush
    split
    · simp [othersOf]
    · simp [othersOf, txt]
  | x :: r, out, t => by
    unfold joinS
    split
    · rename_i hk
      rw [others_join r]
      simp [othersOf, hk]
    · rename_i hk
      rw [others_join r]
      unfold flush
      split
      · simp [othersOf, hk]; omega
      · simp [othersOf, hk, txt]; omega
/-- All texts are plain ones. -/
def AllPlain (l : List T.Snip) : Prop := ∀ x ∈ l, x.kind = 0 → x = txt x.text
theorem plain_flush (out : List T.Snip) (t : Bytes) (ho : AllPlain out) : AllPlain (out ++ flush t) := by
  unfold flush
  split
  · simpa using ho
  · intro x hx hk
    rcases List.mem_append.1 hx with hx | hx
    · exact ho x hx hk
    · simp at hx; subst hx; rfl
theorem plain_join : ∀ (r out : List T.Snip) (t : Bytes), AllPlain out → AllPlain (joinS out t r)
  | [], out, t, ho => plain_flush out t ho
  | x :: r, out, t, ho => by
    unfold joinS
    split
    · exact plain_join r out _ ho
    · rename_i hk
      refine plain_join r _ [] ?_
      intro y hy hky
      rcases List.mem_append.1 hy with hy | hy
      · exact plain_flush out t ho y hy hky
      · simp at hy; subst hy; exact absurd hky hk
theorem join_clean : ∀ (r out : List T.Snip) (t : Bytes), (t = [] ∨ ∀ y, r.head? = some y → y.kind ≠ 0) → Clean r → AllPlain r → joinS out t r = (out ++ flush t) ++ r
  | [], out, t, _, _, _ => by simp [joinS]
  | x :: r, out, t, ht, hc, hp => by
    unfold joinS
    have hp' : AllPlain r := fun y hy => hp y (by simp [hy])
    have hc' : Clean r := by
      cases r with
      | nil => trivial
      | cons y r => exact hc.2
    split
    · rename_i hk
      rcases ht with rfl | ht
      · have hx := hp x (by simp) hk
        have hne : x.text ≠ [] := by
          cases r with
          | nil => exact hc hk
          | cons y r => exact (hc.1 hk).1
        rw [List.nil_append, join_clean r out x.text (.inr (fun y hy => by
          cases r with
          | nil => simp at hy
          | cons z r => simp at hy; subst hy; exact (hc.1 hk).2)) hc' hp']
        simp only [flush, if_neg hne, if_true, List.append_nil, List.append_assoc, List.singleton_append]
        rw [← hx]
      · exact absurd hk (ht x rfl)
    · rename_i hk
      rw [join_clean r _ [] (.inl rfl) hc' hp']
      simp [flush]

/-- The document's. -/
theorem ref_L0 (l : Sl T.Snip) (hl : l.l.length ≤ 1000) (hp : AllPlain l.l) : ∀ (r : List T.Snip) (k : Nat) (out : List T.Snip) (t : Bytes), l.l.drop k = r → (out ++ flush t).length ≤ k → t.length + sumN (r.map fun x => x.text.length) ≤ 100000 → (∀ y, out.getLast? = some y → y.kind ≠ 0) →
    ref20_Join_L0 (l, (k : Int), out ++ flush t) = some (joinS out t r) := by
  intro r
  induction r with
  | nil =>
    intro k out t hd _ _ _
    rw [ref20_Join_L0.eq_1, if_neg (by simpa using dropN hd)]
    simp [joinS]
  | cons x r ih =>
    intro k out t hd ho ht hlast
    obtain ⟨a1, a2, a3, a4⟩ := dropC hd
    simp only [List.map_cons, sumN] at ht
    have hroom : roomOK ((out ++ flush t).length + 1) 224 = true := roomS (by omega) (by omega)
    rw [ref20_Join_L0.eq_1]
    simp only [a1, decide_true, if_true, a2, Option.bind_eq_bind, Option.bind_some, wrS (by omega) a1, hroom]
    by_cases hk : x.kind = 0
    · have hb : (x.kind == 0) = true := by simpa using hk
      have hx := hp x a4 hk
      simp only [hb, if_true, joinS, if_pos hk]
      by_cases hte : x.text = []
      · have := ih (k + 1) out t a3 (by omega) (by omega) hlast
        simpa [hte] using this
      · have hb2 : (x.text == []) = false := by simpa using hte
        simp only [hb2, Bool.false_eq_true, if_false]
        by_cases hto : t = []
        · subst hto
          have h := ih (k + 1) out x.text a3 (by simp [flush, hte] at ho ⊢; omega) (by omega) hlast
          have hfl : out ++ flush x.text = out ++ [x] := by simp only [flush, if_neg hte]; rw [← hx]
          rw [hfl] at h
          simp only [flush, if_true, List.append_nil, List.nil_append]
          cases hol : out with
          | nil => subst hol; simpa using h
          | cons z zs =>
            have hne : out ≠ [] := by simp [hol]
            have hpos : 0 < out.length := by simp [hol]
            rw [← hol]
            have hge := geti_some (l := out) (n := out.length - 1) (by omega)
            have e1 : IntKind.i64.wrap ((out.length : Int) - 1) = ((out.length - 1 : Nat) : Int) := by
              have : out.length ≤ k := by simp at ho; omega
              rw [wr (by omega) (by omega)]; omega
            have hkl : out[out.length - 1].kind ≠ 0 := hlast _ (by rw [List.getLast?_eq_getElem?]; simp [hpos])
            have hkb : (out[out.length - 1].kind == 0) = false := by simpa using hkl
            have hdl : decide ((out.length : Int) > 0) = true := by simp; omega
            simp only [hdl, if_true, e1, hge, Option.bind_some, hkb, Bool.false_eq_true, if_false]
            exact h
        · -- the text grows
          have hfl : flush t = [txt t] := by simp [flush, hto]
          have hne2 : t ++ x.text ≠ [] := by simp [hto]
          have h := ih (k + 1) out (t ++ x.text) a3 (by simp [flush, hto, hne2] at ho ⊢; omega) (by simp; omega) hlast
          rw [show flush (t ++ x.text) = [txt (t ++ x.text)] by simp [flush, hto]] at h
          rw [hfl] at ho ⊢
          have hlen : (out ++ [txt t]).length = out.length + 1 := by simp
          have e1 : IntKind.i64.wrap (((out ++ [txt t]).length : Int) - 1) = (out.length : Int) := by
            rw [wr (by omega) (by omega)]; omega
          have hge : geti (out ++ [txt t]) (out.length : Int) = some (txt t) := by simp [geti]
          have hdl : decide (((out ++ [txt t]).length : Int) > 0) = true := by simp
          have hr : (txt t).text.length + x.text.length ≤ 2 ^ 62 := by simp [txt]; omega
          simp only [hdl, if_true, e1, hge, Option.bind_some, hr]
          have hset : (out ++ [txt t]).set (out.length : Int).toNat (T.Snip.mk (txt t).kind ((txt t).text ++ x.text) (txt t).n (txt t).has (txt t).turned (txt t).form (txt t).opts (txt t).kids) = out ++ [txt (t ++ x.text)] := by
            simp [txt]
          rw [hset]
          have hkt : ((txt t).kind == 0) = true := rfl
          simp only [hkt, if_true]
          exact h
    · have hb : (x.kind == 0) = false := by simpa using hk
      simp only [hb, Bool.false_eq_true, if_false, joinS, if_neg hk]
      have h := ih (k + 1) ((out ++ flush t) ++ [x]) [] a3 (by simp [flush] at ho ⊢; omega) (by simp; omega) (fun y hy => by simp at hy; subst hy; exact hk)
      simpa [flush] using h

/-- What the law looks at. -/
theorem look_L2 (i_ : Sl T.Snip) (al : Bytes) (out : Sl T.Snip) (hl : out.l.length ≤ 3000) : ∀ (r : List T.Snip) (k : Nat) (got : Bytes) (m : Int), out.l.drop k = r → Clean r → (∀ y, k ≠ 0 → out.l[k - 1]? = some y → y.kind = 0 → ∀ z, r.head? = some z → z.kind ≠ 0) → got.length + (textsOf r).length ≤ 1000000 → -5000 ≤ m + k → m ≤ 10000 →
    law20_NodeJoin_L2 (i_, al, m, out, got, (k : Int)) = some (.inr (m - othersOf r, got ++ textsOf r)) := by
  intro r
  induction r with
  | nil =>
    intro k got m hd _ _ _ _ _
    rw [law20_NodeJoin_L2.eq_1, if_neg (by simpa using dropN hd)]
    simp [textsOf, othersOf]
  | cons x r ih =>
    intro k got m hd hc hpv ht hm1 hm2
    obtain ⟨a1, a2, a3, a4⟩ := dropC hd
    have hxk : out.l[k]? = some x := by have := geti_at a2; simpa using this
    have hc' : Clean r := by
      cases r with
      | nil => trivial
      | cons y r => exact hc.2
    have hpv' : ∀ y, k + 1 ≠ 0 → out.l[k + 1 - 1]? = some y → y.kind = 0 → ∀ z, r.head? = some z → z.kind ≠ 0 := by
      intro y _ hy hky z hz
      simp only [Nat.add_sub_cancel] at hy
      rw [hxk] at hy
      cases hy
      cases r with
      | nil => simp at hz
      | cons w r => simp at hz; subst hz; exact (hc.1 hky).2
    rw [law20_NodeJoin_L2.eq_1]
    simp only [a1, decide_true, if_true, a2, Option.bind_eq_bind, Option.bind_some, wrS (by omega) a1]
    by_cases hk : x.kind = 0
    · have hb : (x.kind != 0) = false := by simp [hk]
      have hne : x.text ≠ [] := by
        cases r with
        | nil => exact hc hk
        | cons y r => exact (hc.1 hk).1
      have hb2 : (x.text == []) = false := by simpa using hne
      have htx : textsOf (x :: r) = x.text ++ textsOf r := by simp [textsOf, hk]
      rw [htx] at ht ⊢
      simp only [List.length_append] at ht
      have hr : got.length + x.text.length ≤ 2 ^ 62 := by omega
      have h := ih (k + 1) (got ++ x.text) m a3 hc' hpv' (by simp; omega) (by omega) hm2
      have hoth : othersOf (x :: r) = othersOf r := by simp [othersOf, hk]
      simp only [hb, Bool.false_eq_true, if_false, hr, if_true, hb2]
      by_cases hk0 : (k : Int) > 0
      · have e1 : IntKind.i64.wrap ((k : Int) - 1) = ((k - 1 : Nat) : Int) := by rw [wr (by omega) (by omega)]; omega
        have hge := geti_some (l := out.l) (n := k - 1) (by omega)
        have hkl : out.l[k - 1].kind ≠ 0 := fun h0 => hpv (out.l[k - 1]) (by omega) (by rw [List.getElem?_eq_getElem (by omega)]) h0 x rfl hk
        have hkb : (out.l[k - 1].kind == 0) = false := by simpa using hkl
        simp only [hk0, decide_true, if_true, e1, hge, Option.bind_some, hkb, Bool.false_eq_true, if_false]
        rw [h, hoth]
        simp
      · simp only [hk0, decide_false, Bool.false_eq_true, if_false]
        rw [h, hoth]
        simp
    · have hb : (x.kind != 0) = true := by simpa using hk
      have e : IntKind.i64.wrap (m - 1) = m - 1 := wr (by omega) (by omega)
      have htx : textsOf (x :: r) = textsOf r := by simp [textsOf, hk]
      rw [htx] at ht ⊢
      have h := ih (k + 1) got (m - 1) a3 hc' hpv' ht (by omega) (by omega)
      have hoth : othersOf (x :: r) = othersOf r + 1 := by simp [othersOf, hk]
      simp only [hb, if_true, e]
      rw [h, hoth]
      simp only [Option.some.injEq, Sum.inr.injEq, Prod.mk.injEq, and_true]
      omega
theorem law_NodeJoin (s : Sl T.Snip) (hok : slOk T.Snip.ok s) : law20_NodeJoin s = some true := by
  unfold law20_NodeJoin
  obtain ⟨r, r1, r2⟩ := snips_left s hok 120 (by unfold BB; omega)
  rw [show (((120 : Nat) : Int)) = 120 from rfl] at r1
  simp only [r1, Option.bind_eq_bind, Option.bind_some]
  by_cases hr : r < 0
  · simp [hr, aw9]
  by_cases hln : (s.l.length : Int) > 20
  · have : ¬ ((s.l.length : Int) ≤ 20) := by omega
    simp [hln, aw9]
  have hw : sumN (s.l.map snW) ≤ 120 := by omega
  have hc : (decide (r < 0) || decide ((s.l.length : Int) > 20)) = false := by simp; omega
  simp only [hc, Bool.false_eq_true, if_false]
  have htx : ∀ m : List T.Snip, sumN (m.map fun x => x.text.length) ≤ sumN (m.map snW) := by
    intro m
    induction m with
    | nil => simp [sumN]
    | cons x m ih => have := snW_text x; simp only [List.map_cons, sumN]; omega
  have htl : ∀ m : List T.Snip, (textsOf m).length ≤ sumN (m.map fun x => x.text.length) := by
    intro m
    induction m with
    | nil => simp [sumN, textsOf]
    | cons x m ih =>
      have e : textsOf (x :: m) = (if x.kind = 0 then x.text else []) ++ textsOf m := by simp [textsOf]
      rw [e]
      simp only [List.map_cons, sumN, List.length_append]
      split <;> simp <;> omega
  have hol : ∀ m : List T.Snip, othersOf m ≤ m.length := fun m => List.length_filter_le _ _
  have h1 := in_L0 s (by omega) s.l 0 [] 0 [] rfl rfl (by omega) (by have := htx s.l; simp; omega)
  rw [show ((0 : Nat) : Int) = 0 from rfl] at h1
  simp only [List.nil_append, Nat.zero_add] at h1
  simp only [h1, Option.bind_some]
  generalize hq : s.l.map plain = q
  have hqk : textsOf q = textsOf s.l := by subst hq; simp [textsOf, plain_kind, plain_text, List.flatMap_map]
  have hqo : othersOf q = othersOf s.l := by subst hq; simp [othersOf, plain_kind, List.filter_map, Function.comp_def]
  have hqp : AllPlain q := by
    subst hq
    intro x hx hk
    obtain ⟨y, _, rfl⟩ := List.mem_map.1 hx
    rw [plain_kind] at hk
    simp [plain, hk, txt]
  have hql : q.length = s.l.length := by subst hq; simp
  have hpw : ∀ x, snW (plain x) ≤ snW x + 1 := by
    intro x
    unfold plain
    split
    · have h3 := snW_text x
      rw [snW_txt]
      omega
    · omega
  have hqw : sumN (q.map snW) ≤ 240 := by
    subst hq
    have : ∀ m : List T.Snip, sumN ((m.map plain).map snW) ≤ sumN (m.map snW) + m.length := by
      intro m
      induction m with
      | nil => simp [sumN]
      | cons x m ih => have := hpw x; simp only [List.map_cons, sumN, List.length_cons]; omega
    have := this s.l
    omega
  have hpo : ∀ x : T.Snip, x.ok → (plain x).ok := by
    intro x hx
    unfold plain
    split
    · exact txt_ok _ ((T.Snip.ok_eq x).1 hx).2.1
    · exact hx
  have hqok : slOk T.Snip.ok (⟨q.isEmpty, q⟩ : Sl T.Snip) := by
    refine ⟨⟨?_, fun h => by simpa using h⟩, ?_⟩
    · have := maxLen_le; have := hok.1.1; simp only; omega
    · subst hq
      intro x hx
      obtain ⟨y, hy, rfl⟩ := List.mem_map.1 hx
      exact hpo y (hok.2 y hy)
  obtain ⟨o, o1, o2, o3⟩ := join_ok ⟨q.isEmpty, q⟩ hqok (by simp only; omega) (by simp only; omega)
  simp only at o2
  -- what is joined, but for nil lists
  have hJw : ∀ (r out : List T.Snip) (t : Bytes), sumN ((joinS out t r).map snW) ≤ sumN (out.map snW) + 2 + t.length + sumN (r.map fun x => snW x + 2) := by
    intro r
    induction r with
    | nil =>
      intro out t
      unfold joinS flush
      split
      · simp; omega
      · rw [List.map_append, sumN_append]; simp [sumN, snW_txt]; omega
    | cons x r ih =>
      intro out t
      unfold joinS
      simp only [List.map_cons, sumN]
      split
      · have h1 := ih out (t ++ x.text)
        have h2 := snW_text x
        simp only [List.length_append] at h1
        omega
      · have h1 := ih ((out ++ flush t) ++ [x]) []
        have h2 : sumN ((flush t).map snW) ≤ 2 + t.length := by
          unfold flush
          split
          · simp [sumN]
          · simp [sumN, snW_txt]
        rw [List.map_append, List.map_append, sumN_append, sumN_append] at h1
        simp only [List.map_cons, List.map_nil, sumN, List.length_nil] at h1
        omega
  have hJw' : sumN ((joinS [] [] q).map snW) ≤ 1000 := by
    have h1 := hJw q [] []
    have h2 : ∀ m : List T.Snip, sumN (m.map fun x => snW x + 2) = sumN (m.map snW) + 2 * m.length := by
      intro m
      induction m with
      | nil => simp [sumN]
      | cons x m ih => simp only [List.map_cons, sumN, List.length_cons, ih]; omega
    rw [h2] at h1
    simp [sumN] at h1
    omega
  have hcl := clean_join q [] [] trivial (fun y hy => by simp at hy)
  have hjt := texts_join q [] []
  have hjo := others_join q [] []
  have hjp := plain_join q [] [] (fun x hx => by simp at hx)
  have href := ref_L0 ⟨q.isEmpty, q⟩ (by simp only; omega) hqp q 0 [] [] rfl (by simp [flush]) (by have := htx q; simp; omega) (fun y hy => by simp at hy)
  rw [show ((0 : Nat) : Int) = 0 from rfl] at href
  simp only [flush, if_true, List.append_nil] at href
  generalize joinS [] [] q = J at o2 hcl hjt hjo hjp hJw' href
  have tr_clean : ∀ (a b : List T.Snip), a.map snN = b.map snN → Clean b → Clean a := by
    intro a
    induction a with
    | nil => intro b _ _; trivial
    | cons x a ih =>
      intro b h hb
      cases b with
      | nil => simp at h
      | cons y b =>
        simp only [List.map_cons, List.cons.injEq] at h
        have hk : x.kind = y.kind := by rw [← snN_kind x, ← snN_kind y, h.1]
        have ht : x.text = y.text := by rw [← snN_text x, ← snN_text y, h.1]
        cases a with
        | nil =>
          cases b with
          | nil => intro h0; rw [ht]; exact hb (hk ▸ h0)
          | cons w b => simp at h
        | cons z a =>
          cases b with
          | nil => simp at h
          | cons w b =>
            have hzw : z.kind = w.kind := by
              have := h.2
              simp only [List.map_cons, List.cons.injEq] at this
              rw [← snN_kind z, ← snN_kind w, this.1]
            exact ⟨fun h0 => by rw [ht, hzw]; exact hb.1 (hk ▸ h0), ih (w :: b) h.2 hb.2⟩
  have tr_texts : ∀ (a b : List T.Snip), a.map snN = b.map snN → textsOf a = textsOf b ∧ othersOf a = othersOf b := by
    intro a
    induction a with
    | nil => intro b h; cases b with | nil => exact ⟨rfl, rfl⟩ | cons y b => simp at h
    | cons x a ih =>
      intro b h
      cases b with
      | nil => simp at h
      | cons y b =>
        simp only [List.map_cons, List.cons.injEq] at h
        have hk : x.kind = y.kind := by rw [← snN_kind x, ← snN_kind y, h.1]
        have ht : x.text = y.text := by rw [← snN_text x, ← snN_text y, h.1]
        obtain ⟨i1, i2⟩ := ih b h.2
        constructor
        · simp only [textsOf, List.flatMap_cons, hk, ht] at i1 ⊢; rw [i1]
        · simp only [othersOf, List.filter_cons, hk] at i2 ⊢
          split <;> simp [i2]
  have hoc := tr_clean o.l J o2 hcl
  obtain ⟨hot, hoo⟩ := tr_texts o.l J o2
  have how : sumN (o.l.map snW) ≤ 1000 := by rw [snW_map o2]; exact hJw'
  have holen : o.l.length ≤ 1000 := by have := sumN_len snW_pos o.l; omega
  have hl2 := look_L2 ⟨q.isEmpty, q⟩ (textsOf s.l) o (by omega) o.l 0 [] (othersOf s.l : Int) rfl hoc (fun y h => absurd rfl h) (by
    rw [hot, hjt]
    have := htl q
    have := htx q
    simp only [textsOf, List.flatMap_nil, List.nil_append, List.length_nil, Nat.zero_add] at *
    omega) (by omega) (by have := hol s.l; omega)
  rw [show ((0 : Nat) : Int) = 0 from rfl] at hl2
  have e1 : textsOf o.l = textsOf s.l := by rw [hot, hjt, hqk]; simp [textsOf]
  have e2 : othersOf o.l = othersOf s.l := by rw [hoo, hjo, hqo]; simp [othersOf]
  rw [e1, e2] at hl2
  simp only [List.nil_append, Int.sub_self] at hl2
  obtain ⟨o', p1, p2, p3⟩ := join_ok o o3 (by omega) holen
  have hJo := joinS_norm o.l J [] [] [] o2 rfl
  rw [join_clean J [] [] (.inl rfl) hcl hjp] at hJo
  simp only [flush, if_true, List.append_nil, List.nil_append] at hJo
  have hsame1 : snode_Same (o, ⟨J.isEmpty, J⟩) = some true := same_ok o ⟨J.isEmpty, J⟩ (by omega) o2
  have hsame2 : snode_Same (o', o) = some true := by
    have h5 : o'.l.map snN = o.l.map snN := by rw [p2, hJo, o2]
    exact same_ok o' o (by rw [snW_map h5]; omega) h5
  have hrj : ref20_Join ⟨q.isEmpty, q⟩ = some ⟨J.isEmpty, J⟩ := by unfold ref20_Join; rw [href]; rfl
  simp only [o1, Option.bind_some, hl2, beq_self_eq_true, Bool.and_self, if_true, hrj, hsame1, p1, hsame2]
  rfl
end Go.Proofs.Ytmlmgbnhaenabaa
