/-
  Numbers of instances' stops: the program's and the document's are one.
-/
import Derived.Test.YtdhgdeelagmbpaaPlMap
set_option linter.unusedSimpArgs false
set_option linter.unusedVariables false
namespace Go.Proofs.Ytdhgdeelagmbpaa
open Go Go.Gm

/-- The numbers of stops that are not turned. -/
def nsOf (l : List T.Stop) : List Int := (l.filter (fun x => !x.turned)).map (·.n)
def nsAll (l : List T.Inst) : List Int := l.flatMap fun i => nsOf i.stops.l
def many (l : List T.Inst) : Nat := (l.map fun i => i.stops.l.length).sum

def addN (m : MapII) (n : Int) : MapII := mput m n (IntKind.i64.wrap (mget m n + 1))

theorem num_L2 (t11 : Sl T.Inst) (t12 t13 : Int) (s : Sl T.Stop) (b : T.Inst) (hl : s.l.length < 2 ^ 60) : ∀ (n k : Nat) (m : MapII), k + n = s.l.length →
    stops_Numbers_L2 (t11, t12, t13, s, (s.l.length : Int), (k : Int), m, b) = some ((nsOf (s.l.drop k)).foldl addN m) := by
  intro n
  induction n with
  | zero =>
    intro k m hk
    rw [stops_Numbers_L2.eq_1]
    have h1 : ¬ k < s.l.length := by omega
    have h2 : s.l.drop k = [] := by simp; omega
    simp [h1, h2, nsOf]
  | succ n ih =>
    intro k m hk
    have hkl : k < s.l.length := by omega
    have hx := geti_some hkl
    have hd := List.drop_eq_getElem_cons hkl
    generalize s.l[k] = x at hx hd
    have hw : IntKind.i64.wrap ((k : Int) + 1) = ((k + 1 : Nat) : Int) := wrap_succ (by omega)
    rw [stops_Numbers_L2.eq_1, hd]
    simp only [hx, Option.bind_eq_bind, Option.bind_some, hw, ih (k + 1) _ (by omega)]
    cases hq : x.turned <;> simp [hkl, nsOf, hq, addN]

theorem num_L0 (is : Sl T.Inst) (hl : is.l.length < 2 ^ 60) (hs : ∀ i ∈ is.l, i.stops.l.length < 2 ^ 60) : ∀ (n k : Nat) (m : MapII), k + n = is.l.length →
    stops_Numbers_L0 (is, (is.l.length : Int), (k : Int), m) = some ((nsAll (is.l.drop k)).foldl addN m) := by
  intro n
  induction n with
  | zero =>
    intro k m hk
    rw [stops_Numbers_L0.eq_1]
    have h1 : ¬ k < is.l.length := by omega
    have h2 : is.l.drop k = [] := by simp; omega
    simp [h1, h2, nsAll]
  | succ n ih =>
    intro k m hk
    have hkl : k < is.l.length := by omega
    have hx := geti_some hkl
    have hm : is.l[k] ∈ is.l := by simp
    have hd := List.drop_eq_getElem_cons hkl
    generalize is.l[k] = x at hx hd hm
    have hw : IntKind.i64.wrap ((k : Int) + 1) = ((k + 1 : Nat) : Int) := wrap_succ (by omega)
    have h2 := num_L2 is (is.l.length : Int) (k : Int) x.stops x (hs x hm) x.stops.l.length 0 m (by omega)
    simp only [Int.natCast_zero, List.drop_zero] at h2
    rw [stops_Numbers_L0.eq_1, hd]
    simp only [hx, Option.bind_eq_bind, Option.bind_some, hw, h2, ih (k + 1) _ (by omega)]
    simp [hkl, nsAll]

/-- What the map holds. -/
structure Cnt (m : MapII) (ns : List Int) : Prop where
  ok : MOK m
  keys : ∀ x, x ∈ keysL m ↔ x ∈ ns
  pos : ∀ x, mhas m x = true → 1 ≤ mget m x ∧ mget m x ≤ ns.length
  len : m.es.length ≤ ns.length

theorem cnt_add : ∀ (ns pre : List Int) (m : MapII), pre.length + ns.length < 2 ^ 60 → Cnt m pre → Cnt (ns.foldl addN m) (pre ++ ns)
  | [], pre, m, _, h => by simpa using h
  | n :: ns, pre, m, hl, h => by
    simp only [List.length_cons] at hl
    have hstep : Cnt (addN m n) (pre ++ [n]) := by
      have hg : mget m n ≤ pre.length ∧ 0 ≤ mget m n := by
        cases hh : mhas m n with
        | true => have := h.pos n hh; omega
        | false =>
          have : mget m n = 0 := by
            unfold mhas at hh
            unfold mget
            cases hf : lfind n m.es 0 with
            | none => rfl
            | some => rw [hf] at hh; simp at hh
          omega
      have hw : IntKind.i64.wrap (mget m n + 1) = mget m n + 1 := wrap_in (by omega) (by omega)
      unfold addN
      rw [hw]
      refine ⟨mput_ok h.ok _ _, fun x => ?_, fun x hx => ?_, ?_⟩
      · rw [mput_keys, h.keys]; simp [or_comm]
      · rw [mget_put]
        rw [mhas_put] at hx
        simp only [List.length_append, List.length_cons, List.length_nil]
        split
        · omega
        · rename_i hne
          rw [if_neg hne] at hx
          have := h.pos x hx
          omega
      · have := mput_len m n (mget m n + 1)
        have := h.len
        simp only [List.length_append, List.length_cons, List.length_nil]
        omega
    have := cnt_add ns (pre ++ [n]) _ (by simp; omega) hstep
    simpa using this

/-- The numbers, rising, 0 at last. -/
structure IsNums (ns out : List Int) : Prop where
  ex : ∃ r, Rise r ∧ (∀ x, x ∈ r ↔ x ∈ ns ∧ x ≠ 0) ∧ out = if 0 ∈ ns then r ++ [0] else r

theorem isNums_one {ns a b : List Int} (ha : IsNums ns a) (hb : IsNums ns b) : a = b := by
  obtain ⟨r, h1, h2, rfl⟩ := ha.ex
  obtain ⟨s, k1, k2, rfl⟩ := hb.ex
  have : r = s := rise_ext h1 k1 fun x => (h2 x).trans (k2 x).symm
  rw [this]

theorem nsOf_len (l : List T.Stop) : (nsOf l).length ≤ l.length := by
  unfold nsOf
  rw [List.length_map]
  exact List.length_filter_le _ _
theorem nsAll_len : ∀ l : List T.Inst, (nsAll l).length ≤ many l
  | [] => by simp [nsAll, many]
  | i :: l => by
    have h1 := nsAll_len l
    have h2 := nsOf_len i.stops.l
    simp only [nsAll, many, List.flatMap_cons, List.length_append, List.map_cons, List.sum_cons] at h1 ⊢
    omega

theorem many_mem : ∀ {l : List T.Inst} {i : T.Inst}, i ∈ l → i.stops.l.length ≤ many l
  | [], i, h => by simp at h
  | x :: l, i, h => by
    simp only [many, List.map_cons, List.sum_cons]
    rcases List.mem_cons.1 h with rfl | h
    · omega
    · have := many_mem h
      simp only [many] at this
      omega

theorem prog_nums (is : Sl T.Inst) (hl : is.l.length < 2 ^ 60) (hm : many is.l ≤ 1000) (hk : ∀ x ∈ nsAll is.l, inI x) : ∃ out, stops_Numbers is = some out ∧ IsNums (nsAll is.l) out := by
  have hs : ∀ i ∈ is.l, i.stops.l.length < 2 ^ 60 := by
    intro i hi
    have := many_mem hi
    omega
  have h0 := num_L0 is hl hs is.l.length 0 ⟨[], 0⟩ (by omega)
  simp only [Int.natCast_zero, List.drop_zero] at h0
  have hn := nsAll_len is.l
  have hc : Cnt ((nsAll is.l).foldl addN ⟨[], 0⟩) (nsAll is.l) := by
    have := cnt_add (nsAll is.l) [] ⟨[], 0⟩ (by simp; omega) ⟨⟨by simp [keysL], by simp, by simp⟩, by simp [keysL], fun x hx => by simp [mhas_nil] at hx, by simp⟩
    simpa using this
  generalize (nsAll is.l).foldl addN ⟨[], 0⟩ = m at h0 hc
  obtain ⟨d1, d2, d3⟩ := mdel_ok hc.ok 0
  have hsk : sortedKeys (mdel m 0) = some (sortI (keysL (mdel m 0))) := sortedKeys_some d1 (fun k hkm => hk k ((hc.keys k).1 ((d2 k).1 hkm).1)) (by have := hc.len; omega)
  have hrise := sortI_rise d1.kn
  have hmem : ∀ x, x ∈ sortI (keysL (mdel m 0)) ↔ x ∈ nsAll is.l ∧ x ≠ 0 := fun x => by rw [(sortI_perm _).mem_iff, d2, hc.keys]
  have hlen : (sortI (keysL (mdel m 0))).length ≤ 1000 := by
    rw [(sortI_perm _).length_eq]
    have := hc.len
    simp only [keysL, List.length_map]
    omega
  unfold stops_Numbers
  simp only [h0, maps_Keys_map_int_int, hsk, Option.bind_eq_bind, Option.bind_some]
  generalize sortI (keysL (mdel m 0)) = r at hrise hmem hlen
  by_cases hz : 0 ∈ nsAll is.l
  · have hp := hc.pos 0 ((mhas_iff m 0).2 ((hc.keys 0).2 hz))
    have hr : roomOK (r.length + 1) 8 = true := by simp [roomOK]; omega
    refine ⟨r ++ [0], ?_, ⟨r, hrise, hmem, by simp [hz]⟩⟩
    rw [if_pos (by simp; omega), if_pos hr]
  · have hp : mget m 0 = 0 := by
      have : ¬ mhas m 0 = true := fun h => hz ((hc.keys 0).1 ((mhas_iff m 0).1 h))
      unfold mhas at this
      unfold mget
      cases hf : lfind 0 m.es 0 with
      | none => rfl
      | some => rw [hf] at this; simp at this
    refine ⟨r, ?_, ⟨r, hrise, hmem, by simp [hz]⟩⟩
    rw [if_neg (by simp; omega)]

theorem room_ok {n b : Nat} (h : n ≤ 1099511627776) (hb : b ≤ 64) : roomOK n b = true := by
  simp only [roomOK, Bool.and_eq_true, decide_eq_true_eq]
  refine ⟨⟨?_, by omega⟩, by omega⟩
  calc n * b ≤ n * 64 := Nat.mul_le_mul_left _ hb
    _ ≤ 2 ^ 46 := by omega

/-! The document's. -/
theorem put_L0 (ns : Sl Int) (n : Int) (hl : ns.l.length < 2 ^ 60) : ∀ (d k : Nat), k + d = ns.l.length → (∀ j x, j < k → ns.l[j]? = some x → x < n) →
    ∃ p : Nat, ref20_Put_L0 (ns, n, (k : Int)) = some (p : Int) ∧ p ≤ ns.l.length ∧ (∀ j x, j < p → ns.l[j]? = some x → x < n) ∧ (∀ x, ns.l[p]? = some x → n ≤ x) := by
  intro d
  induction d with
  | zero =>
    intro k hk hj
    obtain rfl : k = ns.l.length := by omega
    refine ⟨ns.l.length, ?_, Nat.le_refl _, hj, by simp⟩
    rw [ref20_Put_L0.eq_1]
    simp
  | succ d ih =>
    intro k hk hj
    have hkl : k < ns.l.length := by omega
    have hx := geti_some hkl
    have hx' : ns.l[k]? = some ns.l[k] := by simp [hkl]
    generalize ns.l[k] = x at hx hx'
    have hw : IntKind.i64.wrap ((k : Int) + 1) = ((k + 1 : Nat) : Int) := wrap_succ (by omega)
    rw [ref20_Put_L0.eq_1]
    simp only [hx, Option.bind_eq_bind, Option.bind_some, hw]
    by_cases h : x < n
    · obtain ⟨p, h1, h2⟩ := ih (k + 1) (by omega) (fun j y hjk hy => by
        by_cases e : j = k
        · subst e; rw [hx'] at hy; cases hy; exact h
        · exact hj j y (by omega) hy)
      exact ⟨p, by simpa [hkl, h] using h1, h2⟩
    · exact ⟨k, by simp [hkl, h], by omega, hj, fun y hy => by rw [hx'] at hy; cases hy; omega⟩

theorem put_ok (ns : Sl Int) (n : Int) (hl : ns.l.length ≤ 1000) (hr : Rise ns.l) : ∃ out, ref20_Put ns n = some out ∧ Rise out.l ∧ (∀ x, x ∈ out.l ↔ x = n ∨ x ∈ ns.l) ∧ out.l.length ≤ ns.l.length + 1 := by
  obtain ⟨p, h1, h2, h3, h4⟩ := put_L0 ns n (by omega) ns.l.length 0 (by omega) (fun j x hj => by omega)
  simp only [Int.natCast_zero] at h1
  have hT : subT ns.l (p : Int) = some (ns.l.take p) := by unfold subT; rw [if_pos (by simp; omega)]; simp
  have hF : subF ns.l (p : Int) = some (ns.l.drop p) := by unfold subF; rw [if_pos (by simp; omega)]; simp
  have hroom : ∀ k, k ≤ 3000 → roomOK k 8 = true := fun k hk => room_ok (by omega) (by omega)
  -- what is laid between
  have mid : (∀ x, ns.l[p]? = some x → n < x) → Rise ((ns.l.take p ++ [n]) ++ ns.l.drop p) ∧ (∀ x, x ∈ (ns.l.take p ++ [n]) ++ ns.l.drop p ↔ x = n ∨ x ∈ ns.l) ∧ ((ns.l.take p ++ [n]) ++ ns.l.drop p).length ≤ ns.l.length + 1 := by
    intro hlt
    have hsp : ns.l.take p ++ ns.l.drop p = ns.l := List.take_append_drop p ns.l
    have hr2 : Rise (ns.l.take p ++ ns.l.drop p) := by rw [hsp]; exact hr
    obtain ⟨r1, r2, r3⟩ := List.pairwise_append.1 hr2
    have a1 : ∀ x ∈ ns.l.take p, x < n := by
      intro x hx
      obtain ⟨j, hj⟩ := List.getElem?_of_mem hx
      have hjl := (List.getElem?_eq_some_iff.1 hj).1
      simp at hjl
      rw [List.getElem?_take_of_lt (by omega)] at hj
      exact h3 j x (by omega) hj
    have a2 : ∀ x ∈ ns.l.drop p, n < x := by
      intro x hx
      cases hd : ns.l.drop p with
      | nil => rw [hd] at hx; simp at hx
      | cons y r =>
        have hy : ns.l[p]? = some y := by
          have := congrArg (fun l => l[0]?) hd
          simpa using this
        have := hlt y hy
        rw [hd] at hx r2
        rcases List.mem_cons.1 hx with rfl | hx
        · exact this
        · have := (List.pairwise_cons.1 r2).1 x hx
          omega
    refine ⟨?_, fun x => ?_, by simp; omega⟩
    · refine List.pairwise_append.2 ⟨List.pairwise_append.2 ⟨r1, by simp, fun x hx y hy => ?_⟩, r2, fun x hx y hy => ?_⟩
      · simp at hy; subst hy; exact a1 x hx
      · rcases List.mem_append.1 hx with hx | hx
        · exact r3 x hx y hy
        · simp at hx; subst hx; exact a2 y hy
    · have : x ∈ ns.l ↔ x ∈ ns.l.take p ∨ x ∈ ns.l.drop p := by rw [← List.mem_append, hsp]
      rw [this]
      simp only [List.mem_append, List.mem_singleton]
      constructor
      · rintro ((h | h) | h)
        · exact .inr (.inl h)
        · exact .inl h
        · exact .inr (.inr h)
      · rintro (h | h | h)
        · exact .inl (.inr h)
        · exact .inl (.inl h)
        · exact .inr h
  unfold ref20_Put
  simp only [h1, hT, hF, Option.bind_eq_bind, Option.bind_some]
  by_cases hp : p < ns.l.length
  · have hx := geti_some hp
    have hx' : ns.l[p]? = some ns.l[p] := by simp [hp]
    generalize ns.l[p] = x at hx hx'
    have hge := h4 x hx'
    rw [if_pos (by simpa using hp), hx]
    simp only [Option.bind_some]
    by_cases e : x = n
    · refine ⟨ns, by simp [e], hr, fun y => ⟨fun h => .inr h, ?_⟩, by omega⟩
      rintro (rfl | h)
      · exact e ▸ List.mem_of_getElem? hx'
      · exact h
    · obtain ⟨m1, m2, m3⟩ := mid (fun y hy => by rw [hx'] at hy; cases hy; omega)
      refine ⟨⟨false, (ns.l.take p ++ [n]) ++ ns.l.drop p⟩, ?_, m1, m2, m3⟩
      rw [if_neg (by simpa using e), if_pos (hroom _ (by simp; omega)), if_pos (hroom _ (by simp; omega)), if_pos (hroom _ (by simp; omega))]
  · obtain ⟨m1, m2, m3⟩ := mid (fun y hy => by
      have := (List.getElem?_eq_some_iff.1 hy).1
      omega)
    refine ⟨⟨false, (ns.l.take p ++ [n]) ++ ns.l.drop p⟩, ?_, m1, m2, m3⟩
    rw [if_neg (by simpa using hp), if_pos (hroom _ (by simp; omega)), if_pos (hroom _ (by simp; omega)), if_pos (hroom _ (by simp; omega))]

/-- What the document has come by. -/
structure Got (ns : Sl Int) (zero : Bool) (seen : List Int) : Prop where
  rise : Rise ns.l
  mem : ∀ x, x ∈ ns.l ↔ x ∈ seen ∧ x ≠ 0
  zero : zero = true ↔ 0 ∈ seen
  len : ns.l.length ≤ seen.length

theorem refnum_L2 (is : Sl T.Inst) (i : Nat) (x : T.Inst) (hx : geti is.l i = some x) (hl : x.stops.l.length < 2 ^ 60) : ∀ (n k : Nat) (ns : Sl Int) (z : Bool) (seen : List Int), k + n = x.stops.l.length → Got ns z seen →
    seen.length + n ≤ 900 → ∃ ns' z', ref26_Numbers_L2 (is, ns, z, (i : Int), (k : Int)) = some (ns', z') ∧ Got ns' z' (seen ++ nsOf (x.stops.l.drop k)) := by
  intro n
  induction n with
  | zero =>
    intro k ns z seen hk hg hs
    have h2 : x.stops.l.drop k = [] := by simp; omega
    refine ⟨ns, z, ?_, by simpa [h2, nsOf] using hg⟩
    rw [ref26_Numbers_L2.eq_1]
    have h1 : ¬ k < x.stops.l.length := by omega
    simp [hx, h1]
  | succ n ih =>
    intro k ns z seen hk hg hs
    have hkl : k < x.stops.l.length := by omega
    have hy := geti_some hkl
    have hd := List.drop_eq_getElem_cons hkl
    generalize x.stops.l[k] = y at hy hd
    have hw : IntKind.i64.wrap ((k : Int) + 1) = ((k + 1 : Nat) : Int) := wrap_succ (by omega)
    rw [ref26_Numbers_L2.eq_1, hd]
    simp only [hx, hy, Option.bind_eq_bind, Option.bind_some, hw]
    cases ht : y.turned with
    | true =>
      obtain ⟨ns', z', h1, h2⟩ := ih (k + 1) ns z seen (by omega) hg (by omega)
      exact ⟨ns', z', by simpa [hkl] using h1, by simpa [nsOf, ht] using h2⟩
    | false =>
      by_cases h0 : y.n = 0
      · have hg' : Got ns true (seen ++ [0]) := ⟨hg.rise, fun x => by rw [hg.mem]; simp; omega, by simp, by have := hg.len; simp; omega⟩
        obtain ⟨ns', z', h1, h2⟩ := ih (k + 1) ns true (seen ++ [0]) (by omega) hg' (by simp; omega)
        exact ⟨ns', z', by simpa [hkl, h0] using h1, by simpa [nsOf, ht, h0] using h2⟩
      · obtain ⟨out, p1, p2, p3, p4⟩ := put_ok ns y.n (by have := hg.len; omega) hg.rise
        have hg' : Got out z (seen ++ [y.n]) := by
          refine ⟨p2, fun x => ?_, ?_, by have := hg.len; simp; omega⟩
          · rw [p3, hg.mem]
            simp only [List.mem_append, List.mem_singleton]
            constructor
            · rintro (rfl | ⟨a, b⟩)
              · exact ⟨.inr rfl, h0⟩
              · exact ⟨.inl a, b⟩
            · rintro ⟨a | a, b⟩
              · exact .inr ⟨a, b⟩
              · exact .inl a
          · rw [hg.zero]
            simp only [List.mem_append, List.mem_singleton]
            constructor
            · exact .inl
            · rintro (h | h)
              · exact h
              · exact absurd h.symm h0
        obtain ⟨ns', z', h1, h2⟩ := ih (k + 1) out z (seen ++ [y.n]) (by omega) hg' (by simp; omega)
        exact ⟨ns', z', by simpa [hkl, h0, p1] using h1, by simpa [nsOf, ht] using h2⟩

theorem refnum_L0 (is : Sl T.Inst) (hl : is.l.length < 2 ^ 60) : ∀ (n k : Nat) (ns : Sl Int) (z : Bool) (seen : List Int), k + n = is.l.length → Got ns z seen →
    seen.length + many (is.l.drop k) ≤ 900 → ∃ ns' z', ref26_Numbers_L0 (is, ns, z, (k : Int)) = some (ns', z') ∧ Got ns' z' (seen ++ nsAll (is.l.drop k)) := by
  intro n
  induction n with
  | zero =>
    intro k ns z seen hk hg hs
    have h2 : is.l.drop k = [] := by simp; omega
    refine ⟨ns, z, ?_, by simpa [h2, nsAll] using hg⟩
    rw [ref26_Numbers_L0.eq_1]
    have h1 : ¬ k < is.l.length := by omega
    simp [h1]
  | succ n ih =>
    intro k ns z seen hk hg hs
    have hkl : k < is.l.length := by omega
    have hx := geti_some hkl
    have hd := List.drop_eq_getElem_cons hkl
    generalize is.l[k] = x at hx hd
    have hw : IntKind.i64.wrap ((k : Int) + 1) = ((k + 1 : Nat) : Int) := wrap_succ (by omega)
    rw [hd] at hs ⊢
    simp only [many, List.map_cons, List.sum_cons] at hs
    obtain ⟨ns1, z1, h1, h2⟩ := refnum_L2 is k x hx (by omega) x.stops.l.length 0 ns z seen (by omega) hg (by omega)
    simp only [Int.natCast_zero, List.drop_zero] at h1 h2
    have hn := nsOf_len x.stops.l
    obtain ⟨ns2, z2, h3, h4⟩ := ih (k + 1) ns1 z1 _ (by omega) h2 (by simp only [List.length_append, many]; omega)
    refine ⟨ns2, z2, ?_, by simpa [nsAll] using h4⟩
    rw [ref26_Numbers_L0.eq_1]
    simpa [hkl, h1, hw] using h3

theorem ref_nums (is : Sl T.Inst) (hl : is.l.length < 2 ^ 60) (hm : many is.l ≤ 900) : ∃ out, ref26_Numbers is = some out ∧ IsNums (nsAll is.l) out.l := by
  obtain ⟨ns, z, h1, h2⟩ := refnum_L0 is hl is.l.length 0 ⟨true, []⟩ false [] (by omega) ⟨by simp [Rise], by simp, by simp, by simp⟩ (by simpa using hm)
  simp only [Int.natCast_zero, List.drop_zero, List.nil_append] at h1 h2
  have hn := nsAll_len is.l
  have := h2.len
  unfold ref26_Numbers
  simp only [h1, Option.bind_eq_bind, Option.bind_some]
  cases hz : z with
  | true =>
    have h0 : 0 ∈ nsAll is.l := h2.zero.1 hz
    refine ⟨⟨false, ns.l ++ [0]⟩, ?_, ⟨ns.l, h2.rise, h2.mem, by simp [h0]⟩⟩
    rw [if_pos rfl, if_pos (room_ok (by omega) (by omega)), if_pos (room_ok (by omega) (by omega))]
  | false =>
    have h0 : ¬ 0 ∈ nsAll is.l := fun h => by have := h2.zero.2 h; rw [hz] at this; cases this
    exact ⟨ns, by simp, ⟨ns.l, h2.rise, h2.mem, by simp [h0]⟩⟩

end Go.Proofs.Ytdhgdeelagmbpaa
