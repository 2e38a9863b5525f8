/-
  Trees: their parts, their numbers, as the program tells them.
-/
import Derived.Test.YtmlmgbnhaenabaaNtB
import Derived.Test.YtmlmgbnhaenabaaPlCnt
set_option linter.unusedSimpArgs false
set_option linter.unusedVariables false
namespace Go.Proofs.Ytmlmgbnhaenabaa
open Go Go.Gm

theorem sumN_le {α : Type} {f g : α → Nat} : ∀ {l : List α}, (∀ a ∈ l, f a ≤ g a) → sumN (l.map f) ≤ sumN (l.map g)
  | [], _ => by simp [sumN]
  | a :: l, h => by
    have h1 := h a (by simp)
    have h2 := sumN_le (l := l) (fun b hb => h b (by simp [hb]))
    simp only [List.map_cons, sumN]
    omega
mutual
def snP : T.Snip → Nat
  | ⟨_, _, _, _, _, _, _, kids⟩ => 1 + snPS kids
def snPS : Sl T.Snip → Nat
  | ⟨_, l⟩ => snPL l
def snPL : List T.Snip → Nat
  | [] => 0
  | x :: r => snP x + snPL r
end
theorem snPL_sum : ∀ l : List T.Snip, snPL l = sumN (l.map snP)
  | [] => by simp [snPL, sumN]
  | x :: r => by simp [snPL, sumN, snPL_sum r]
theorem snP_eq (x : T.Snip) : snP x = 1 + sumN (x.kids.l.map snP) := by
  cases x with | mk a b c d e f g h => cases h; simp [snP, snPS, snPL_sum]
theorem snP_le : ∀ x : T.Snip, snP x ≤ snW x := by
  apply sn_ind
  intro x ih
  have := sumN_le ih
  rw [snP_eq, snW_eq]
  omega
/-- A light list of parts. -/
abbrev LightS (l : Sl T.Snip) : Prop := sumN (l.l.map snW) ≤ 1099511627775
theorem lightS_len {l : Sl T.Snip} (h : LightS l) : l.l.length ≤ 1099511627775 := by have := sumN_len snW_pos l.l; unfold LightS at h; omega
theorem lightS_mem {l : Sl T.Snip} (h : LightS l) {x : T.Snip} (hx : x ∈ l.l) : snW x ≤ 1099511627775 := by have := sumN_map_mem (f := snW) hx; unfold LightS at h; omega
theorem lightS_kids {l : Sl T.Snip} (h : LightS l) {x : T.Snip} (hx : x ∈ l.l) : LightS x.kids := by have := lightS_mem h hx; have := snW_eq x; unfold LightS; omega
/-- What holds of a list if it holds of all parts' kids holds of all lists. -/
theorem snS_ind {P : Sl T.Snip → Prop} (h : ∀ l, LightS l → (∀ x ∈ l.l, P x.kids) → P l) : ∀ l, LightS l → P l := by
  intro l hl
  refine h l hl fun x hx => ?_
  have : ∀ x : T.Snip, LightS x.kids → P x.kids := by
    apply sn_ind (P := fun x => LightS x.kids → P x.kids)
    intro x ih hx
    exact h _ hx fun y hy => ih y hy (lightS_kids hx hy)
  exact this x (lightS_kids hl hx)

theorem parts_prog : ∀ l, LightS l → snode_Parts l = some (sumN (l.l.map snP) : Int) := by
  apply snS_ind
  intro l hl ih0
  have hlen := lightS_len hl
  have htot : sumN (l.l.map snP) ≤ 1099511627775 := by have := sumN_le (fun x (_ : x ∈ l.l) => snP_le x); unfold LightS at hl; omega
  have k1 : ∀ (r : List T.Snip) (k n : Nat), l.l.drop k = r → n + sumN (r.map snP) ≤ r.length + 1099511627775 * 2 → snode_Parts_L0 ((n : Int), l, (l.l.length : Int), (k : Int)) = some (((n + sumN (r.map snP) - r.length) : Nat) : Int) := by
    intro r
    induction r with
    | nil =>
      intro k n hk _
      rw [snode_Parts_L0.eq_1, if_neg (by simpa using dropN hk)]
      simp [sumN]
    | cons x r ih =>
      intro k n hk hn
      obtain ⟨a1, a2, a3, a4⟩ := dropC hk
      have hd := snP_eq x
      have hrl : r.length ≤ sumN (r.map snP) := sumN_len (fun y => by rw [snP_eq]; omega) r
      simp only [List.map_cons, sumN, List.length_cons] at hn ⊢
      have hrk : r.length ≤ 1099511627775 := by rw [← a3]; simp; omega
      have e : IntKind.i64.wrap ((n : Int) + (sumN (x.kids.l.map snP) : Int)) = ((n + sumN (x.kids.l.map snP) : Nat) : Int) := by rw [wr (by omega) (by omega)]; omega
      rw [snode_Parts_L0.eq_1]
      simp only [a1, decide_true, if_true, a2, Option.bind_eq_bind, Option.bind_some, ih0 x a4, wrS (by omega) a1, e]
      rw [ih (k + 1) _ a3 (by omega)]
      simp only [Option.some.injEq, Int.natCast_inj]
      omega
  rw [snode_Parts.eq_1]
  have h := k1 l.l 0 l.l.length rfl (by omega)
  rw [show ((l.l.length : Int), l, (l.l.length : Int), (0 : Int)) = (((l.l.length : Nat) : Int), l, (l.l.length : Int), ((0 : Nat) : Int)) from rfl, h]
  simp
/-! Numbers. -/
def hasN (x : T.Snip) : Bool := x.kind == 1 || x.kind == 2
mutual
def snNs : T.Snip → List Int
  | ⟨k, _, n, _, _, _, _, kids⟩ => (if k == 1 || k == 2 then [n] else []) ++ snNsS kids
def snNsS : Sl T.Snip → List Int
  | ⟨_, l⟩ => snNsL l
def snNsL : List T.Snip → List Int
  | [] => []
  | x :: r => snNs x ++ snNsL r
end
theorem snNsL_flat : ∀ l : List T.Snip, snNsL l = l.flatMap snNs
  | [] => by simp [snNsL]
  | x :: r => by simp [snNsL, snNsL_flat r]
theorem snNs_eq (x : T.Snip) : snNs x = (if hasN x then [x.n] else []) ++ x.kids.l.flatMap snNs := by
  cases x with | mk a b c d e f g h => cases h; simp [snNs, snNsS, snNsL_flat, hasN]
theorem flat_len {α : Type} {f : α → List Int} {g : α → Nat} : ∀ {l : List α}, (∀ a ∈ l, (f a).length ≤ g a) → (l.flatMap f).length ≤ sumN (l.map g)
  | [], _ => by simp [sumN]
  | a :: l, h => by
    have h1 := h a (by simp)
    have h2 := flat_len (l := l) (fun b hb => h b (by simp [hb]))
    simp only [List.flatMap_cons, List.length_append, List.map_cons, sumN]
    omega
theorem snNs_len : ∀ x : T.Snip, (snNs x).length ≤ snP x := by
  apply sn_ind
  intro x ih
  have := flat_len ih
  rw [snNs_eq, snP_eq]
  cases hasN x <;> simp only [List.length_append, if_true, if_false, Bool.false_eq_true, List.length_cons, List.length_nil] <;> omega
theorem snNs_in : ∀ x : T.Snip, x.ok → ∀ n ∈ snNs x, inI n := by
  apply sn_ind (P := fun x => x.ok → ∀ n ∈ snNs x, inI n)
  intro x ih hx n hn
  have hxo := (T.Snip.ok_eq x).1 hx
  rw [snNs_eq] at hn
  rcases List.mem_append.1 hn with h | h
  · cases hq : hasN x
    · simp [hq] at h
    · simp [hq] at h
      subst h
      exact hxo.2.2.1
  · obtain ⟨y, hy, hny⟩ := List.mem_flatMap.1 h
    exact ih y hy (hxo.2.2.2.2.2.2.2.1.2 y hy) n hny
theorem progNs : ∀ l, LightS l → ∀ m, snode_numbers (l, m) = some ((l.l.flatMap snNs).foldl addN m) := by
  apply snS_ind
  intro l hl ih0
  have hlen := lightS_len hl
  have key : ∀ (r : List T.Snip) (k : Nat) (m : MapII), l.l.drop k = r → snode_numbers_L0 (l, (l.l.length : Int), (k : Int), m) = some ((r.flatMap snNs).foldl addN m) := by
    intro r
    induction r with
    | nil =>
      intro k m hk
      rw [snode_numbers_L0.eq_1, if_neg (by simpa using dropN hk)]; rfl
    | cons x r ih =>
      intro k m hk
      obtain ⟨a1, a2, a3, a4⟩ := dropC hk
      rw [snode_numbers_L0.eq_1]
      simp only [a1, decide_true, if_true, a2, Option.bind_eq_bind, Option.bind_some, ih0 x a4, wrS (by omega) a1, ih (k + 1) _ a3, List.flatMap_cons, List.foldl_append, snNs_eq x]
      unfold hasN
      cases (x.kind == 1 || x.kind == 2) <;> simp [addN]
  intro m
  rw [snode_numbers.eq_1]
  have h := key l.l 0 m rfl
  rw [show ((0 : Nat) : Int) = 0 from rfl] at h
  rw [h]; rfl
/-- The numbers of a tree: rising, each once, just those of its stops and choices. -/
theorem prog_numbers (s : Sl T.Snip) (hok : slOk T.Snip.ok s) (hl : LightS s) (hs : (s.l.flatMap snNs).length ≤ 900) : ∃ a, snode_Numbers s = some a ∧ Rise a.l ∧ (∀ x, x ∈ a.l ↔ x ∈ s.l.flatMap snNs) ∧ a.l.length ≤ 900 := by
  have hc : Cnt ((s.l.flatMap snNs).foldl addN ⟨[], 0⟩) (s.l.flatMap snNs) := by
    have := cnt_add (s.l.flatMap snNs) [] ⟨[], 0⟩ (by simp only [List.length_nil]; omega) ⟨⟨by simp [keysL], by simp, by simp⟩, by simp [keysL], fun x hx => by simp [mhas_nil] at hx, by simp⟩
    simpa using this
  have hn := progNs s hl ⟨[], 0⟩
  generalize (s.l.flatMap snNs).foldl addN ⟨[], 0⟩ = m at hn hc
  have hin : ∀ k ∈ keysL m, inI k := by
    intro k hk
    obtain ⟨x, hx, hkx⟩ := List.mem_flatMap.1 ((hc.keys k).1 hk)
    exact snNs_in x (hok.2 x hx) k hkx
  have hsk := sortedKeys_some hc.ok hin (by have := hc.len; omega)
  unfold snode_Numbers
  simp only [hn, maps_Keys_map_int_int, hsk, Option.bind_eq_bind, Option.bind_some]
  refine ⟨_, rfl, sortI_rise hc.ok.kn, fun x => ?_, ?_⟩
  · rw [(sortI_perm _).mem_iff, hc.keys]
  · rw [(sortI_perm _).length_eq]
    have := hc.len
    simp only [keysL, List.length_map]
    omega
end Go.Proofs.Ytmlmgbnhaenabaa
