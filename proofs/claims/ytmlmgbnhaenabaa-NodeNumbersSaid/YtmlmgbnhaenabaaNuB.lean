/-
  Numbers rise, each once; each is one of a stop or a choice of the tree, at any depth, and none is left out.
-/
import Derived.Test.YtmlmgbnhaenabaaNuA
set_option linter.unusedSimpArgs false
set_option linter.unusedVariables false
namespace Go.Proofs.Ytmlmgbnhaenabaa
open Go Go.Gm

theorem roomS {n b : Nat} (h : n ≤ 1073741824) (hb : b ≤ 1024) : roomOK n b = true := by
  simp only [roomOK, Bool.and_eq_true, decide_eq_true_eq]
  refine ⟨⟨?_, by omega⟩, by omega⟩
  calc n * b ≤ n * 1024 := Nat.mul_le_mul_left _ hb
    _ ≤ 2 ^ 46 := by omega
/-- They rise. -/
theorem nn_L0 (s : Sl T.Snip) (ns : Sl Int) (hr : Rise ns.l) (hl : ns.l.length ≤ 900) : ∀ (r : List Int) (k : Nat), 1 ≤ k → ns.l.drop k = r → law20_NodeNumbers_L0 (s, ns, (k : Int)) = some (.inr ()) := by
  intro r
  induction r with
  | nil =>
    intro k _ hk
    rw [law20_NodeNumbers_L0.eq_1, if_neg (by simpa using dropN hk)]
  | cons x r ih =>
    intro k h1 hk
    obtain ⟨a1, a2, a3, a4⟩ := dropC hk
    have hk1 : IntKind.i64.wrap ((k : Int) - 1) = ((k - 1 : Nat) : Int) := by rw [wr (by omega) (by omega)]; omega
    have hp := geti_some (l := ns.l) (n := k - 1) (by omega)
    have hx := geti_some (l := ns.l) (n := k) (by omega)
    have hxe : ns.l[k]'(by omega) = x := by rw [a2] at hx; exact (Option.some.inj hx).symm
    have hlt : ns.l[k - 1]'(by omega) < ns.l[k]'(by omega) := List.pairwise_iff_getElem.1 hr (k - 1) k (by omega) (by omega) (by omega)
    rw [hxe] at hlt
    rw [law20_NodeNumbers_L0.eq_1]
    simp only [a1, decide_true, if_true, a2, Option.bind_eq_bind, Option.bind_some, wrS (by omega) a1, hk1, hp]
    rw [if_neg (by simpa using hlt), ih (k + 1) (by omega) a3]
/-- The numbers that are met. -/
theorem nn_L4 (s : Sl T.Snip) (ns : Sl Int) (hl : ns.l.length ≤ 900) (row : List T.Snip) (i : Nat) (x : T.Snip) (hx : geti row (i : Int) = some x) : ∀ (r : List Int) (k : Nat) (met : List Bool) (found : Bool), ns.l.drop k = r → met.length = ns.l.length →
    ∃ met', law20_NodeNumbers_L4 (s, ns, (i : Int), found, (k : Int), row, met) = some (found || r.contains x.n, met') ∧ met'.length = ns.l.length ∧
      (∀ j : Nat, met[j]? = some true → met'[j]? = some true) ∧ (∀ j : Nat, k ≤ j → ns.l[j]? = some x.n → met'[j]? = some true) := by
  intro r
  induction r with
  | nil =>
    intro k met found hk hm
    have := drop_none hk
    rw [law20_NodeNumbers_L4.eq_1, if_neg (by simpa using dropN hk)]
    refine ⟨met, by simp, hm, fun j h => h, fun j h1 h2 => ?_⟩
    have := (List.getElem?_eq_some_iff.1 h2).1
    omega
  | cons y r ih =>
    intro k met found hk hm
    obtain ⟨a1, a2, a3, a4⟩ := dropC hk
    have hy : ns.l[k]? = some y := by
      have := geti_at a2
      simpa using this
    have hmk := geti_some (l := met) (n := k) (by omega)
    rw [law20_NodeNumbers_L4.eq_1]
    simp only [a1, decide_true, if_true, a2, hx, Option.bind_eq_bind, Option.bind_some, wrS (by omega) a1, hmk, Int.toNat_natCast]
    by_cases he : y = x.n
    · obtain ⟨m', m1, m2, m3, m4⟩ := ih (k + 1) (met.set k true) true a3 (by simpa using hm)
      have hkl : k < met.length := by omega
      refine ⟨m', by simpa [he] using m1, m2, fun j h => m3 j ?_, fun j h1 h2 => ?_⟩
      · rw [List.getElem?_set]; split
        · rename_i h; subst h; simp [hkl]
        · exact h
      · by_cases hj : j = k
        · subst hj; exact m3 j (by simp [hkl])
        · exact m4 j (by omega) h2
    · obtain ⟨m', m1, m2, m3, m4⟩ := ih (k + 1) met found a3 hm
      have hb : (y == x.n) = false := by simpa using he
      have hb' : (x.n == y) = false := by simpa using Ne.symm he
      refine ⟨m', by simp only [hb, Bool.false_eq_true, if_false, List.contains_cons, hb', Bool.false_or]; exact m1, m2, m3, fun j h1 h2 => ?_⟩
      by_cases hj : j = k
      · subst hj; rw [hy] at h2; exact absurd (Option.some.inj h2) he
      · exact m4 j (by omega) h2
theorem nn_L2 (s : Sl T.Snip) (ns : Sl Int) (hl : ns.l.length ≤ 900) (tot : Nat) (htot : tot ≤ 1000) : ∀ (m i : Nat) (row : List T.Snip) (met : List Bool), sumN ((row.drop i).map snP) = m → i + m = tot → i ≤ row.length → met.length = ns.l.length →
    (∀ n ∈ (row.drop i).flatMap snNs, n ∈ ns.l) → (∀ (j : Nat) n, ns.l[j]? = some n → met[j]? = some true ∨ n ∈ (row.drop i).flatMap snNs) →
    ∃ row' met', law20_NodeNumbers_L2 (s, ns, (i : Int), row, met) = some (.inr (row', met')) ∧ row'.length = tot ∧ met'.length = ns.l.length ∧ (∀ j : Nat, j < met'.length → met'[j]? = some true) := by
  intro m
  induction m using Nat.strongRecOn with
  | _ m ih =>
    intro i row met hs hi hir hm hin hmet
    rw [law20_NodeNumbers_L2.eq_1]
    cases hd : row.drop i with
    | nil =>
      have h1 := drop_none hd
      rw [hd] at hs hmet
      simp only [List.map_nil, sumN] at hs
      rw [if_neg (by simpa using dropN hd)]
      refine ⟨row, met, rfl, by omega, hm, fun j hj => ?_⟩
      have hj' : j < ns.l.length := by omega
      rcases hmet j ns.l[j] (by simp [hj']) with h | h
      · exact h
      · simp at h
    | cons x r =>
      obtain ⟨a1, a2, a3, a4⟩ := dropC hd
      have hsn := snNs_eq x
      have hsp := snP_eq x
      rw [hd] at hs hin hmet
      simp only [List.map_cons, sumN] at hs
      have hrl : row.length ≤ tot := by
        have h1 := sumN_len (f := snP) (fun y => by rw [snP_eq]; omega) r
        have h2 : row.length = i + (r.length + 1) := by
          have := congrArg List.length hd
          simp at this; omega
        omega
      have hkl : x.kids.l.length ≤ tot := by
        have := sumN_len (f := snP) (fun y => by rw [snP_eq]; omega) x.kids.l
        omega
      have hroom : roomOK (row.length + x.kids.l.length) 224 = true := roomS (by omega) (by omega)
      have hx' : geti (row ++ x.kids.l) (i : Int) = some x := by
        have h := geti_at a2
        simp only [Int.toNat_natCast] at h
        have hil := (List.getElem?_eq_some_iff.1 h).1
        unfold geti
        rw [if_pos (by omega)]
        simp only [Int.toNat_natCast]
        rw [List.getElem?_append_left hil]
        exact h
      have hdr : (row ++ x.kids.l).drop (i + 1) = r ++ x.kids.l := by
        rw [List.drop_append_of_le_length (by omega), a3]
      -- what goes on behind
      have go : ∀ met1 : List Bool, met1.length = ns.l.length → (∀ (j : Nat) (n : Int), ns.l[j]? = some n → met1[j]? = some true ∨ n ∈ (r ++ x.kids.l).flatMap snNs) →
          ∃ row' met', law20_NodeNumbers_L2 (s, ns, ((i + 1 : Nat) : Int), row ++ x.kids.l, met1) = some (.inr (row', met')) ∧ row'.length = tot ∧ met'.length = ns.l.length ∧ (∀ j : Nat, j < met'.length → met'[j]? = some true) := by
        intro met1 hm1 hmet1
        refine ih (sumN ((r ++ x.kids.l).map snP)) ?_ (i + 1) (row ++ x.kids.l) met1 (by rw [hdr]) ?_ ?_ hm1 ?_ (by rw [hdr]; exact hmet1)
        · rw [List.map_append, sumN_append]; omega
        · rw [List.map_append, sumN_append]; omega
        · simp; omega
        · rw [hdr]
          intro n hn
          apply hin
          rw [List.flatMap_append, List.mem_append] at hn
          rw [List.flatMap_cons, List.mem_append, hsn, List.mem_append]
          rcases hn with h | h
          · exact .inr h
          · exact .inl (.inr h)
      have hwr := wrS (xs := row) (k := i) (by omega) a1
      simp only [a1, decide_true, if_true, a2, Option.bind_eq_bind, Option.bind_some, hroom, hx', hwr]
      -- a part with a number
      have num : hasN x = true → ∃ met', law20_NodeNumbers_L4 (s, ns, (i : Int), false, (0 : Int), row ++ x.kids.l, met) = some (true, met') ∧ met'.length = ns.l.length ∧
          (∀ (j : Nat) (n : Int), ns.l[j]? = some n → met'[j]? = some true ∨ n ∈ (r ++ x.kids.l).flatMap snNs) := by
        intro hq
        rw [hq] at hsn
        obtain ⟨m', m1, m2, m3, m4⟩ := nn_L4 s ns hl (row ++ x.kids.l) i x hx' ns.l 0 met false rfl hm
        rw [show ((0 : Nat) : Int) = 0 from rfl] at m1
        have hmem : x.n ∈ ns.l := hin x.n (by rw [List.flatMap_cons, List.mem_append, hsn]; simp)
        refine ⟨m', by rw [m1]; simp [hmem], m2, fun j n hj => ?_⟩
        rcases hmet j n hj with h | h
        · exact .inl (m3 j h)
        · rw [List.flatMap_cons, List.mem_append, hsn] at h
          rw [List.flatMap_append, List.mem_append]
          rcases h with h | h
          · rcases List.mem_append.1 h with h | h
            · simp at h
              subst h
              exact .inl (m4 j (by omega) hj)
            · exact .inr (.inr h)
          · exact .inr (.inl h)
      have nonum : hasN x = false → (∀ (j : Nat) (n : Int), ns.l[j]? = some n → met[j]? = some true ∨ n ∈ (r ++ x.kids.l).flatMap snNs) := by
        intro hq j n hj
        rw [hq] at hsn
        rcases hmet j n hj with h | h
        · exact .inl h
        · rw [List.flatMap_cons, List.mem_append, hsn] at h
          rw [List.flatMap_append, List.mem_append]
          rcases h with h | h
          · simp only [Bool.false_eq_true, if_false, List.nil_append] at h
            exact .inr (.inr h)
          · exact .inr (.inl h)
      by_cases k1 : x.kind = 1
      · obtain ⟨met', q1, q2, q3⟩ := num (by simp [hasN, k1])
        obtain ⟨row', met'', g1, g2⟩ := go met' q2 q3
        exact ⟨row', met'', by simp [k1, q1]; simpa using g1, g2⟩
      · by_cases k2 : x.kind = 2
        · obtain ⟨met', q1, q2, q3⟩ := num (by simp [hasN, k2])
          obtain ⟨row', met'', g1, g2⟩ := go met' q2 q3
          exact ⟨row', met'', by simp [k2, q1]; simpa using g1, g2⟩
        · obtain ⟨row', met'', g1, g2⟩ := go met hm (nonum (by simp [hasN, k1, k2]))
          exact ⟨row', met'', by simp [k1, k2]; simpa using g1, g2⟩
theorem nn_L6 (s : Sl T.Snip) (row : List T.Snip) (met : List Bool) (hl : met.length ≤ 900) (hm : ∀ j : Nat, j < met.length → met[j]? = some true) : ∀ (r : List Bool) (k : Nat), met.drop k = r → law20_NodeNumbers_L6 (s, (k : Int), row, met) = some (.inr ()) := by
  intro r
  induction r with
  | nil =>
    intro k hk
    rw [law20_NodeNumbers_L6.eq_1, if_neg (by simpa using dropN hk)]
  | cons x r ih =>
    intro k hk
    obtain ⟨a1, a2, a3, a4⟩ := dropC hk
    have hx : x = true := by
      have h1 := geti_at a2
      have h2 := hm k (by omega)
      simp only [Int.toNat_natCast] at h1
      rw [h1] at h2
      exact Option.some.inj h2
    rw [law20_NodeNumbers_L6.eq_1]
    simp only [a1, decide_true, if_true, a2, Option.bind_eq_bind, Option.bind_some, wrS (by omega) a1, hx, Bool.not_true, Bool.false_eq_true, if_false, ih (k + 1) a3]

theorem law_NodeNumbers (s : Sl T.Snip) (hok : slOk T.Snip.ok s) : law20_NodeNumbers s = some true := by
  unfold law20_NodeNumbers
  obtain ⟨r, r1, r2⟩ := snips_left s hok 120 (by unfold BB; omega)
  rw [show (((120 : Nat) : Int)) = 120 from rfl] at r1
  simp only [r1, Option.bind_eq_bind, Option.bind_some]
  by_cases hr : r < 0
  · simp [hr, aw9]
  · have hw : sumN (s.l.map snW) ≤ 120 := by omega
    have hl : LightS s := by unfold LightS; omega
    have hsp := sumN_le (fun x (_ : x ∈ s.l) => snP_le x)
    have hns : (s.l.flatMap snNs).length ≤ 900 := by
      have h1 := flat_len (fun x (_ : x ∈ s.l) => snNs_len x)
      omega
    obtain ⟨a, a1, a2, a3, a4⟩ := prog_numbers s hok hl hns
    have p1 := parts_prog s hl
    have l0 := nn_L0 s a a2 a4 (a.l.drop 1) 1 (Nat.le_refl _) rfl
    rw [show ((1 : Nat) : Int) = 1 from rfl] at l0
    have hsl := lightS_len hl
    have hsl2 := sumN_len (f := snP) (fun y => by rw [snP_eq]; omega) s.l
    have ro1 : roomOK s.l.length 224 = true := roomS (by omega) (by omega)
    have ro2 : roomOK a.l.length 1 = true := roomS (by omega) (by omega)
    obtain ⟨row', met', g1, g2, g3, g4⟩ := nn_L2 s a a4 (sumN (s.l.map snP)) (by omega) _ 0 s.l (List.replicate a.l.length false) rfl (by simp) (by simp) (by simp)
      (fun n hn => (a3 n).2 (by simpa using hn)) (fun j n hj => .inr (by simpa using (a3 n).1 (List.mem_of_getElem? hj)))
    rw [show ((0 : Nat) : Int) = 0 from rfl] at g1
    have l6 := nn_L6 s row' met' (by omega) g4 met' 0 rfl
    rw [show ((0 : Nat) : Int) = 0 from rfl] at l6
    have hz : 0 ≤ (a.l.length : Int) := by omega
    simp only [decide_eq_false (show ¬ (r < 0) from hr), Bool.false_eq_true, if_false, a1, Option.bind_some, l0, ro1, hz, if_true, Int.toNat_natCast, ro2, g1, l6, p1, g2, beq_self_eq_true]
    rfl
end Go.Proofs.Ytmlmgbnhaenabaa
