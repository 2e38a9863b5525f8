/-
  How often numbers were met: maps that count.
-/
import Derived.Test.YtmlmgbnhaenabaaPlMap
set_option linter.unusedSimpArgs false
set_option linter.unusedVariables false
namespace Go.Proofs.Ytmlmgbnhaenabaa
open Go Go.Gm

def addN (m : MapII) (n : Int) : MapII := mput m n (IntKind.i64.wrap (mget m n + 1))

/-- What the map holds. -/
structure Cnt (m : MapII) (ns : List Int) : Prop where
  ok : MOK m
  keys : ∀ x, x ∈ keysL m ↔ x ∈ ns
  pos : ∀ x, mhas m x = true → 1 ≤ mget m x ∧ mget m x ≤ ns.length
  len : m.es.length ≤ ns.length

theorem cnt_add : ∀ (ns pre : List Int) (m : MapII), pre.length + ns.length < 2 ^ 60 → Cnt m pre → Cnt (ns.foldl addN m) (pre ++ ns)
  | [], pre, m, _, h => by simpa using h
  | n :: ns, pre, m, hl, h => by
    simp only [List.length_cons] at hl
    have hstep : Cnt (addN m n) (pre ++ [n]) := by
      have hg : mget m n ≤ pre.length ∧ 0 ≤ mget m n := by
        cases hh : mhas m n with
        | true => have := h.pos n hh; omega
        | false =>
          have : mget m n = 0 := by
            unfold mhas at hh
            unfold mget
            cases hf : lfind n m.es 0 with
            | none => rfl
            | some => rw [hf] at hh; simp at hh
          omega
      have hw : IntKind.i64.wrap (mget m n + 1) = mget m n + 1 := wrap_in (by omega) (by omega)
      unfold addN
      rw [hw]
      refine ⟨mput_ok h.ok _ _, fun x => ?_, fun x hx => ?_, ?_⟩
      · rw [mput_keys, h.keys]; simp [or_comm]
      · rw [mget_put]
        rw [mhas_put] at hx
        simp only [List.length_append, List.length_cons, List.length_nil]
        split
        · omega
        · rename_i hne
          rw [if_neg hne] at hx
          have := h.pos x hx
          omega
      · have := mput_len m n (mget m n + 1)
        have := h.len
        simp only [List.length_append, List.length_cons, List.length_nil]
        omega
    have := cnt_add ns (pre ++ [n]) _ (by simp; omega) hstep
    simpa using this

end Go.Proofs.Ytmlmgbnhaenabaa
