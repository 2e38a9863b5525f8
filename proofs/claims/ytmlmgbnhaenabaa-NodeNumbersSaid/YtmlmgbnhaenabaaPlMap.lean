/-
  Maps of numbers, rising lists: plain laws.
-/
import Derived.Test.YtmlmgbnhaenabaaSh
set_option linter.unusedSimpArgs false
set_option linter.unusedVariables false
namespace Go.Proofs.Ytmlmgbnhaenabaa
open Go Go.Gm

def keysL (m : MapII) : List Int := m.es.map (·.1)
structure MOK (m : MapII) : Prop where
  kn : (keysL m).Nodup
  sn : (m.es.map (·.2.2)).Nodup
  sc : ∀ e ∈ m.es, e.2.2 < m.clock

theorem lfind_some (k : Int) : ∀ (l : List (Int × Int × Nat)) (i j : Nat) (v : Int) (b : Nat), lfind k l i = some (j, v, b) → ∃ d, j = i + d ∧ l[d]? = some (k, v, b)
  | [], i, j, v, b, h => by simp [lfind] at h
  | (x, u, c) :: r, i, j, v, b, h => by
    simp only [lfind] at h
    split at h
    · rename_i hk
      simp only [beq_iff_eq] at hk
      subst hk
      simp only [Option.some.injEq, Prod.mk.injEq] at h
      obtain ⟨rfl, rfl, rfl⟩ := h
      exact ⟨0, rfl, rfl⟩
    · obtain ⟨d, rfl, hd⟩ := lfind_some k r (i + 1) j v b h
      exact ⟨d + 1, by omega, by simpa using hd⟩
theorem lfind_none (k : Int) : ∀ (l : List (Int × Int × Nat)) (i : Nat), lfind k l i = none ↔ k ∉ l.map (·.1)
  | [], i => by simp [lfind]
  | (x, u, c) :: r, i => by
    simp only [lfind]
    split
    · rename_i hk
      simp only [beq_iff_eq] at hk
      simp [hk]
    · rename_i hk
      have : k ≠ x := by simpa using hk
      rw [lfind_none k r (i + 1)]
      simp [this]
theorem mhas_iff (m : MapII) (k : Int) : mhas m k = true ↔ k ∈ keysL m := by
  unfold mhas keysL
  cases h : lfind k m.es 0 with
  | none => simpa using (lfind_none k m.es 0).1 h
  | some x =>
    obtain ⟨j, v, b⟩ := x
    obtain ⟨d, _, hd⟩ := lfind_some k _ _ _ _ _ h
    simp only [Option.isSome_some, true_iff]
    exact List.mem_map.2 ⟨_, List.mem_of_getElem? hd, rfl⟩

theorem set_same {α : Type} {l : List α} {d : Nat} {x : α} (h : l[d]? = some x) : l.set d x = l := by
  apply List.ext_getElem?
  intro i
  rw [List.getElem?_set]
  split
  · rename_i hd
    subst hd
    have := (List.getElem?_eq_some_iff.1 h).1
    rw [h]
    simp [this]
  · rfl
theorem erase_perm {α : Type} : ∀ {l : List α} {d : Nat} {x : α}, l[d]? = some x → l.Perm (x :: l.eraseIdx d)
  | [], d, x, h => by simp at h
  | y :: l, 0, x, h => by simp at h; subst h; exact .refl _
  | y :: l, d + 1, x, h => ((erase_perm (l := l) (by simpa using h)).cons y).trans (.swap x y _)

theorem mput_ok {m : MapII} (h : MOK m) (k v : Int) : MOK (mput m k v) := by
  unfold mput
  cases hf : lfind k m.es 0 with
  | none =>
    have hk := (lfind_none k m.es 0).1 hf
    refine ⟨?_, ?_, ?_⟩
    · simp only [keysL, List.map_append, List.map_cons, List.map_nil]
      refine List.nodup_append.2 ⟨h.kn, by simp, fun a ha b hb => ?_⟩
      simp at hb
      subst hb
      exact fun e => hk (e ▸ ha)
    · simp only [List.map_append, List.map_cons, List.map_nil]
      refine List.nodup_append.2 ⟨h.sn, by simp, fun a ha b hb => ?_⟩
      simp at hb
      subst hb
      obtain ⟨e, he, rfl⟩ := List.mem_map.1 ha
      have := h.sc e he
      omega
    · intro e he
      rcases List.mem_append.1 he with he | he
      · have := h.sc e he; simp only; omega
      · simp at he; subst he; simp
  | some x =>
    obtain ⟨j, w, b⟩ := x
    obtain ⟨d, rfl, hd⟩ := lfind_some k _ _ _ _ _ hf
    simp only [Nat.zero_add]
    have e1 : ((m.es.set d (k, v, b)).map (·.1)) = m.es.map (·.1) := by
      rw [List.map_set]
      exact set_same (by simp [hd])
    have e2 : ((m.es.set d (k, v, b)).map (·.2.2)) = m.es.map (·.2.2) := by
      rw [List.map_set]
      exact set_same (by simp [hd])
    refine ⟨by simp only [keysL, e1]; exact h.kn, by rw [e2]; exact h.sn, fun e he => ?_⟩
    have : e.2.2 ∈ (m.es.set d (k, v, b)).map (·.2.2) := List.mem_map.2 ⟨e, he, rfl⟩
    rw [e2] at this
    obtain ⟨e', he', heq⟩ := List.mem_map.1 this
    have := h.sc e' he'
    simp only at heq ⊢
    omega

theorem mput_len (m : MapII) (k v : Int) : (mput m k v).es.length ≤ m.es.length + 1 := by
  unfold mput
  split <;> simp

theorem mput_keys (m : MapII) (k v x : Int) : x ∈ keysL (mput m k v) ↔ x = k ∨ x ∈ keysL m := by
  rw [← mhas_iff, ← mhas_iff, mhas_put]
  split <;> simp_all

theorem mdel_ok {m : MapII} (h : MOK m) (k : Int) : MOK (mdel m k) ∧ (∀ x, x ∈ keysL (mdel m k) ↔ x ∈ keysL m ∧ x ≠ k) ∧ (mdel m k).es.length ≤ m.es.length := by
  unfold mdel
  cases hf : lfind k m.es 0 with
  | none =>
    have hk := (lfind_none k m.es 0).1 hf
    exact ⟨h, fun x => ⟨fun hx => ⟨hx, fun e => hk (e ▸ hx)⟩, fun hx => hx.1⟩, Nat.le_refl _⟩
  | some y =>
    obtain ⟨j, w, b⟩ := y
    obtain ⟨d, rfl, hd⟩ := lfind_some k _ _ _ _ _ hf
    simp only [Nat.zero_add]
    have hs : (m.es.eraseIdx d).Sublist m.es := List.eraseIdx_sublist _ _
    have hdl := (List.getElem?_eq_some_iff.1 hd).1
    refine ⟨⟨h.kn.sublist (hs.map _), h.sn.sublist (hs.map _), fun e he => h.sc e (hs.subset he)⟩, fun x => ?_, by rw [List.length_eraseIdx]; split <;> omega⟩
    have e1 : keysL ⟨m.es.eraseIdx d, m.clock⟩ = (keysL m).eraseIdx d := by simp only [keysL, erase_map]
    have hkd : (keysL m)[d]? = some k := by simp [keysL, hd]
    rw [e1]
    have hp : (keysL m).Perm (k :: (keysL m).eraseIdx d) := erase_perm hkd
    have hn := hp.nodup_iff.1 h.kn
    rw [List.nodup_cons] at hn
    constructor
    · intro hx
      exact ⟨hp.mem_iff.2 (by simp [hx]), fun e => hn.1 (e ▸ hx)⟩
    · rintro ⟨hx, hne⟩
      rcases List.mem_cons.1 (hp.mem_iff.1 hx) with e | hx
      · exact absurd e hne
      · exact hx

/-! Rising lists. -/
def Rise (l : List Int) : Prop := l.Pairwise (· < ·)

theorem rise_ext : ∀ {a b : List Int}, Rise a → Rise b → (∀ x, x ∈ a ↔ x ∈ b) → a = b
  | [], [], _, _, _ => rfl
  | [], y :: b, _, _, h => by have := (h y).2 (by simp); simp at this
  | x :: a, [], _, _, h => by have := (h x).1 (by simp); simp at this
  | x :: a, y :: b, ha, hb, h => by
    have ha' := List.pairwise_cons.1 ha
    have hb' := List.pairwise_cons.1 hb
    have hxy : x = y := by
      have h1 := (h x).1 (by simp)
      have h2 := (h y).2 (by simp)
      rcases List.mem_cons.1 h1 with e | h1
      · exact e
      · rcases List.mem_cons.1 h2 with e | h2
        · exact e.symm
        · have := ha'.1 y h2; have := hb'.1 x h1; omega
    subst hxy
    refine congrArg _ (rise_ext ha'.2 hb'.2 fun z => ?_)
    constructor
    · intro hz
      have := ha'.1 z hz
      rcases List.mem_cons.1 ((h z).1 (by simp [hz])) with e | h1
      · omega
      · exact h1
    · intro hz
      have := hb'.1 z hz
      rcases List.mem_cons.1 ((h z).2 (by simp [hz])) with e | h1
      · omega
      · exact h1

theorem sortI_rise {l : List Int} (h : l.Nodup) : Rise (sortI l) := by
  have h1 := sortI_le l
  have h2 : (sortI l).Nodup := (sortI_perm l).nodup_iff.2 h
  have : (sortI l).Pairwise (fun a b => a ≤ b ∧ a ≠ b) := h1.and h2
  exact this.imp fun h => by omega

theorem sortedKeys_some {m : MapII} (h : MOK m) (hk : ∀ k ∈ keysL m, inI k) (hl : m.es.length ≤ 1099511627776) : sortedKeys m = some (sortI (keysL m)) := by
  unfold sortedKeys
  rw [if_pos]
  · rfl
  · simp only [keysFit, Bool.and_eq_true, decide_eq_true_eq, List.all_eq_true, List.length_map]
    refine ⟨⟨⟨⟨h.kn, fun k hkm => ?_⟩, h.sn⟩, fun b hb => ?_⟩, hl⟩
    · have := hk k hkm
      exact this
    · obtain ⟨e, he, rfl⟩ := List.mem_map.1 hb
      exact h.sc e he
end Go.Proofs.Ytmlmgbnhaenabaa
