/-
  Of any tree, may it be, how deep, of how many parts and which numbers is it: as the document tells.
-/
import Derived.Test.YtmlmgbnhaenabaaGreatNtG
import Derived.Test.YtmlmgbnhaenabaaGreatPlCnt
import Derived.Test.YtmlmgbnhaenabaaGreatPlPut
import Derived.Test.YtmlmgbnhaenabaaGreatPlInts
set_option linter.unusedSimpArgs false
set_option linter.unusedVariables false
namespace Go.Proofs.YtmlmgbnhaenabaaGreat
open Go Go.Gm

theorem prev_ok (l : Sl T.Snip) (k : Nat) (hk : (k : Int) < (l.l.length : Int)) (hl : l.l.length ≤ 1099511627775) :
    ∃ pv : Bool, ((k : Int) = 0 → pv = false) ∧ (¬ (k : Int) = 0 → ∃ y, geti l.l (IntKind.i64.wrap ((k : Int) - 1)) = some y ∧ (y.kind == 0) = pv) := by
  by_cases hk0 : (k : Int) = 0
  · exact ⟨false, fun _ => rfl, fun h => absurd hk0 h⟩
  · have hk1 : IntKind.i64.wrap ((k : Int) - 1) = ((k - 1 : Nat) : Int) := by rw [wr (by omega) (by omega)]; omega
    have hp := geti_some (l := l.l) (n := k - 1) (by omega)
    exact ⟨l.l[k - 1].kind == 0, fun h => absurd h hk0, fun _ => ⟨_, by rw [hk1]; exact hp, rfl⟩⟩
theorem mays_ok : ∀ l, LightS l → ∃ m, ref20_may l = some m ∧ ∀ deep : Int, 0 ≤ deep → deep ≤ BB → snode_fits (l, deep) = some (m && decide ((maxN (l.l.map snD) : Int) ≤ deep)) := by
  apply snS_ind
  intro l hl ih0
  have hlen := lightS_len hl
  let mm : T.Snip → Bool := fun x => ref20_may x.kids == some true
  have hmm : ∀ x ∈ l.l, ref20_may x.kids = some (mm x) ∧ ∀ deep : Int, 0 ≤ deep → deep ≤ BB → snode_fits (x.kids, deep) = some (mm x && decide ((maxN (x.kids.l.map snD) : Int) ≤ deep)) := by
    intro x hx
    obtain ⟨m, m1, m2⟩ := ih0 x hx
    have : mm x = m := by simp only [mm, m1]; cases m <;> rfl
    rw [this]
    exact ⟨m1, m2⟩
  have key : ∀ (r : List T.Snip) (k : Nat), l.l.drop k = r → ∃ c, ref20_may_L0 (l, (k : Int)) = some (lr c) ∧
      ∀ deep : Int, 0 ≤ deep → deep ≤ BB → snode_fits_L0 (l, deep, l, (l.l.length : Int), (k : Int)) = some (lr (c && decide ((maxN (r.map snD) : Int) ≤ deep))) := by
    intro r
    induction r with
    | nil =>
      intro k hk
      refine ⟨true, ?_, fun deep d1 d2 => ?_⟩
      · rw [ref20_may_L0.eq_1, if_neg (by simpa using dropN hk)]; rfl
      · rw [snode_fits_L0.eq_1, if_neg (by simpa using dropN hk)]
        simp [maxN, d1, lr]
    | cons x r ih =>
      intro k hk
      obtain ⟨a1, a2, a3, a4⟩ := dropC hk
      obtain ⟨c, c1, c2⟩ := ih (k + 1) a3
      obtain ⟨pv, p1, p2⟩ := prev_ok l k a1 hlen
      have hwr := wrS (xs := l.l) (k := k) (by omega) a1
      obtain ⟨f, f1, f2, f3, f4⟩ := part_ok l k x a1 a2 (lightS_mem hl a4) hwr (mm x) (hmm x a4).1 pv p1 p2
      have hsd := snD_eq x
      refine ⟨((f && (!x.has || mm x)) && !(x.kind == 0 && pv)) && c, ?_, fun deep d1 d2 => ?_⟩
      · rw [f4, c1]
        cases ((f && (!x.has || mm x)) && !(x.kind == 0 && pv)) <;> simp [lr]
      · rw [snode_fits_L0.eq_1]
        simp only [a1, decide_true, if_true, a2, Option.bind_eq_bind, Option.bind_some, f1, hwr, c2 deep d1 d2]
        cases f
        · simp [lr]
        · -- behind the look at the one ahead
          have rest : (if x.has = true then if (deep == 0) = true then some (.inl false) else snode_fits (x.kids, IntKind.i64.wrap (deep - 1)) >>= fun v15 => if (!v15) = true then some (.inl false) else some (lr (c && decide ((maxN (r.map snD) : Int) ≤ deep))) else some (lr (c && decide ((maxN (r.map snD) : Int) ≤ deep)))) =
              some (lr (((!x.has || mm x) && c) && decide ((maxN ((x :: r).map snD) : Int) ≤ deep))) := by
            simp only [List.map_cons, maxN]
            cases hh : x.has
            · have h0 : snD x = 0 := by rw [hsd, f2 rfl hh, hh]; simp [maxN]
              simp only [Bool.false_eq_true, if_false, Bool.not_false, Bool.true_or, Bool.true_and, h0, Nat.zero_max]
            · simp only [hh, if_true] at hsd ⊢
              by_cases hd0 : deep = 0
              · have : ¬ (((max (snD x) (maxN (r.map snD)) : Nat) : Int) ≤ deep) := by omega
                simp [hd0, lr]
                omega
              · have e : IntKind.i64.wrap (deep - 1) = deep - 1 := wr (by unfold BB at *; omega) (by unfold BB at *; omega)
                have hb : (deep == 0) = false := by simpa using hd0
                simp only [hb, Bool.false_eq_true, if_false, e, (hmm x a4).2 (deep - 1) (by omega) (by omega), Option.bind_eq_bind, Option.bind_some, Bool.not_true, Bool.false_or]
                have h1 : decide (((max (snD x) (maxN (r.map snD)) : Nat) : Int) ≤ deep) = (decide ((maxN (x.kids.l.map snD) : Int) ≤ deep - 1) && decide ((maxN (r.map snD) : Int) ≤ deep)) := by
                  rw [Bool.eq_iff_iff]; simp only [Bool.and_eq_true, decide_eq_true_eq]; omega
                rw [h1]
                cases mm x <;> cases c <;> cases decide ((maxN (x.kids.l.map snD) : Int) ≤ deep - 1) <;> cases decide ((maxN (r.map snD) : Int) ≤ deep) <;> rfl
          simp only [Option.bind_eq_bind] at rest
          by_cases hk0 : (k : Int) = 0
          · have := p1 hk0
            subst this
            have g : decide ((k : Int) > 0) = false := by simp; omega
            simp only [g, Bool.and_false, Bool.false_eq_true, if_false, Bool.not_true, rest]
            cases (!x.has || mm x) <;> simp
          · obtain ⟨y, y1, y2⟩ := p2 hk0
            have g : decide ((k : Int) > 0) = true := by simp; omega
            simp only [g, Bool.and_true, Bool.not_true, Bool.false_eq_true, if_false, y1, Option.bind_some, y2, rest]
            cases (x.kind == 0) <;> cases pv <;> cases (!x.has || mm x) <;> simp [lr]
  obtain ⟨c, c1, c2⟩ := key l.l 0 rfl
  rw [show ((0 : Nat) : Int) = 0 from rfl] at c1 c2
  refine ⟨c, ?_, fun deep d1 d2 => ?_⟩
  · rw [ref20_may.eq_1, c1]; cases c <;> rfl
  · rw [snode_fits.eq_1, c2 deep d1 d2]
    cases (c && decide ((maxN (l.l.map snD) : Int) ≤ deep)) <;> rfl
theorem trees_may (l : Sl T.Snip) (hl : LightS l) : ∃ c, snode_May l = some c ∧ ref20_May l = some c := by
  obtain ⟨m, m1, m2⟩ := mays_ok l hl
  refine ⟨m && decide ((maxN (l.l.map snD) : Int) ≤ 32), ?_, ?_⟩
  · unfold snode_May
    rw [m2 32 (by omega) (by unfold BB; omega)]; rfl
  · unfold ref20_May
    simp only [(deeps_ok l hl).2, m1, Option.bind_eq_bind, Option.bind_some]
    cases decide ((maxN (l.l.map snD) : Int) ≤ 32) <;> cases m <;> rfl

/-! Numbers. -/
def hasN (x : T.Snip) : Bool := x.kind == 1 || x.kind == 2
mutual
def snNs : T.Snip → List Int
  | ⟨k, _, n, _, _, _, _, kids⟩ => (if k == 1 || k == 2 then [n] else []) ++ snNsS kids
def snNsS : Sl T.Snip → List Int
  | ⟨_, l⟩ => snNsL l
def snNsL : List T.Snip → List Int
  | [] => []
  | x :: r => snNs x ++ snNsL r
end
theorem snNsL_flat : ∀ l : List T.Snip, snNsL l = l.flatMap snNs
  | [] => by simp [snNsL]
  | x :: r => by simp [snNsL, snNsL_flat r]
theorem snNs_eq (x : T.Snip) : snNs x = (if hasN x then [x.n] else []) ++ x.kids.l.flatMap snNs := by
  cases x with | mk a b c d e f g h => cases h; simp [snNs, snNsS, snNsL_flat, hasN]
theorem flat_len {α : Type} {f : α → List Int} {g : α → Nat} : ∀ {l : List α}, (∀ a ∈ l, (f a).length ≤ g a) → (l.flatMap f).length ≤ sumN (l.map g)
  | [], _ => by simp [sumN]
  | a :: l, h => by
    have h1 := h a (by simp)
    have h2 := flat_len (l := l) (fun b hb => h b (by simp [hb]))
    simp only [List.flatMap_cons, List.length_append, List.map_cons, sumN]
    omega
theorem snNs_len : ∀ x : T.Snip, (snNs x).length ≤ snP x := by
  apply sn_ind
  intro x ih
  have := flat_len ih
  rw [snNs_eq, snP_eq]
  cases hasN x <;> simp only [List.length_append, if_true, if_false, Bool.false_eq_true, List.length_cons, List.length_nil] <;> omega
theorem snNs_in : ∀ x : T.Snip, x.ok → ∀ n ∈ snNs x, inI n := by
  apply sn_ind (P := fun x => x.ok → ∀ n ∈ snNs x, inI n)
  intro x ih hx n hn
  have hxo := (T.Snip.ok_eq x).1 hx
  rw [snNs_eq] at hn
  rcases List.mem_append.1 hn with h | h
  · cases hq : hasN x
    · simp [hq] at h
    · simp [hq] at h
      subst h
      exact hxo.2.2.1
  · obtain ⟨y, hy, hny⟩ := List.mem_flatMap.1 h
    exact ih y hy (hxo.2.2.2.2.2.2.2.1.2 y hy) n hny
theorem progNs : ∀ l, LightS l → ∀ m, snode_numbers (l, m) = some ((l.l.flatMap snNs).foldl addN m) := by
  apply snS_ind
  intro l hl ih0
  have hlen := lightS_len hl
  have key : ∀ (r : List T.Snip) (k : Nat) (m : MapII), l.l.drop k = r → snode_numbers_L0 (l, (l.l.length : Int), (k : Int), m) = some ((r.flatMap snNs).foldl addN m) := by
    intro r
    induction r with
    | nil =>
      intro k m hk
      rw [snode_numbers_L0.eq_1, if_neg (by simpa using dropN hk)]; rfl
    | cons x r ih =>
      intro k m hk
      obtain ⟨a1, a2, a3, a4⟩ := dropC hk
      rw [snode_numbers_L0.eq_1]
      simp only [a1, decide_true, if_true, a2, Option.bind_eq_bind, Option.bind_some, ih0 x a4, wrS (by omega) a1, ih (k + 1) _ a3, List.flatMap_cons, List.foldl_append, snNs_eq x]
      unfold hasN
      cases (x.kind == 1 || x.kind == 2) <;> simp [addN]
  intro m
  rw [snode_numbers.eq_1]
  have h := key l.l 0 m rfl
  rw [show ((0 : Nat) : Int) = 0 from rfl] at h
  rw [h]; rfl
structure GotN (ns : Sl Int) (seen : List Int) : Prop where
  rise : Rise ns.l
  mem : ∀ x, x ∈ ns.l ↔ x ∈ seen
  len : ns.l.length ≤ seen.length
theorem refNs : ∀ l, LightS l → ∀ ns seen, GotN ns seen → seen.length + (l.l.flatMap snNs).length ≤ 900 → ∃ out, ref20_numbers (ns, l) = some out ∧ GotN out (seen ++ l.l.flatMap snNs) := by
  apply snS_ind
  intro l hl ih0
  have hlen := lightS_len hl
  have key : ∀ (r : List T.Snip) (k : Nat) (ns : Sl Int) (seen : List Int), l.l.drop k = r → GotN ns seen → seen.length + (r.flatMap snNs).length ≤ 900 → ∃ out, ref20_numbers_L0 (ns, l, (k : Int)) = some out ∧ GotN out (seen ++ r.flatMap snNs) := by
    intro r
    induction r with
    | nil =>
      intro k ns seen hk hg _
      rw [ref20_numbers_L0.eq_1, if_neg (by simpa using dropN hk)]
      exact ⟨ns, rfl, by simpa using hg⟩
    | cons x r ih =>
      intro k ns seen hk hg hs
      obtain ⟨a1, a2, a3, a4⟩ := dropC hk
      simp only [List.flatMap_cons, List.length_append] at hs
      have hsn := snNs_eq x
      rw [ref20_numbers_L0.eq_1]
      simp only [a1, decide_true, if_true, a2, Option.bind_eq_bind, Option.bind_some, wrS (by omega) a1]
      have tail : ∀ ns1 seen1, GotN ns1 seen1 → seen1 ++ x.kids.l.flatMap snNs = seen ++ snNs x → ∃ out, ((ref20_numbers (ns1, x.kids)).bind fun v8 => ref20_numbers_L0 (v8, l, ((k + 1 : Nat) : Int))) = some out ∧ GotN out (seen ++ (x :: r).flatMap snNs) := by
        intro ns1 seen1 hg1 he
        have hle := congrArg List.length he
        simp only [List.length_append] at hle
        obtain ⟨o1, q1, q2⟩ := ih0 x a4 ns1 seen1 hg1 (by omega)
        obtain ⟨o2, q3, q4⟩ := ih (k + 1) o1 _ a3 q2 (by simp only [List.length_append]; omega)
        refine ⟨o2, by simp only [q1, Option.bind_some, q3], ?_⟩
        rw [he] at q4
        simpa using q4
      have putN : hasN x = true → ∃ o, ref20_Put ns x.n = some o ∧ GotN o (seen ++ [x.n]) := by
        intro hq
        rw [hq] at hsn
        have hl1 := congrArg List.length hsn
        simp at hl1
        obtain ⟨o, o1, o2, o3, o4⟩ := put_ok ns x.n (by have := hg.len; omega) hg.rise
        refine ⟨o, o1, o2, fun y => ?_, by have := hg.len; simp; omega⟩
        rw [o3, hg.mem]; simp [or_comm]
      cases h1 : (x.kind == 1)
      · cases h2 : (x.kind == 2)
        · have hq : hasN x = false := by simp [hasN, h1, h2]
          obtain ⟨out, t1, t2⟩ := tail ns seen hg (by rw [hsn, hq]; simp)
          exact ⟨out, by simpa using t1, t2⟩
        · have hq : hasN x = true := by simp [hasN, h1, h2]
          obtain ⟨o, o1, o2⟩ := putN hq
          obtain ⟨out, t1, t2⟩ := tail o _ o2 (by rw [hsn, hq]; simp)
          exact ⟨out, by simpa [o1] using t1, t2⟩
      · have hq : hasN x = true := by simp [hasN, h1]
        obtain ⟨o, o1, o2⟩ := putN hq
        obtain ⟨out, t1, t2⟩ := tail o _ o2 (by rw [hsn, hq]; simp)
        exact ⟨out, by simpa [o1] using t1, t2⟩
  intro ns seen hg hs
  rw [ref20_numbers.eq_1]
  obtain ⟨out, o1, o2⟩ := key l.l 0 ns seen rfl hg hs
  rw [show ((0 : Nat) : Int) = 0 from rfl] at o1
  exact ⟨out, by simp [o1], o2⟩
/-- The numbers of a tree: rising, each once, just those of its stops and choices. -/
theorem prog_numbers (s : Sl T.Snip) (hok : slOk T.Snip.ok s) (hl : LightS s) (hs : (s.l.flatMap snNs).length ≤ 900) : ∃ a, snode_Numbers s = some a ∧ Rise a.l ∧ (∀ x, x ∈ a.l ↔ x ∈ s.l.flatMap snNs) ∧ a.l.length ≤ 900 := by
  have hc : Cnt ((s.l.flatMap snNs).foldl addN ⟨[], 0⟩) (s.l.flatMap snNs) := by
    have := cnt_add (s.l.flatMap snNs) [] ⟨[], 0⟩ (by simp only [List.length_nil]; omega) ⟨⟨by simp [keysL], by simp, by simp⟩, by simp [keysL], fun x hx => by simp [mhas_nil] at hx, by simp⟩
    simpa using this
  have hn := progNs s hl ⟨[], 0⟩
  generalize (s.l.flatMap snNs).foldl addN ⟨[], 0⟩ = m at hn hc
  have hin : ∀ k ∈ keysL m, inI k := by
    intro k hk
    obtain ⟨x, hx, hkx⟩ := List.mem_flatMap.1 ((hc.keys k).1 hk)
    exact snNs_in x (hok.2 x hx) k hkx
  have hsk := sortedKeys_some hc.ok hin (by have := hc.len; omega)
  unfold snode_Numbers
  simp only [hn, maps_Keys_map_int_int, hsk, Option.bind_eq_bind, Option.bind_some]
  refine ⟨_, rfl, sortI_rise hc.ok.kn, fun x => ?_, ?_⟩
  · rw [(sortI_perm _).mem_iff, hc.keys]
  · rw [(sortI_perm _).length_eq]
    have := hc.len
    simp only [keysL, List.length_map]
    omega
theorem numbers_ok (s : Sl T.Snip) (hok : slOk T.Snip.ok s) (hl : LightS s) (hs : (s.l.flatMap snNs).length ≤ 900) : ∃ a b, snode_Numbers s = some a ∧ ref20_Numbers s = some b ∧ law0_Ints a b = some true := by
  obtain ⟨a, a1, a2, a3, a4⟩ := prog_numbers s hok hl hs
  obtain ⟨b, b1, b2⟩ := refNs s hl ⟨true, []⟩ [] ⟨by simp [Rise], by simp, by simp⟩ (by simp only [List.length_nil]; omega)
  refine ⟨a, b, a1, by unfold ref20_Numbers; rw [b1]; rfl, ?_⟩
  have : a.l = b.l := rise_ext a2 b2.rise fun x => by rw [a3, b2.mem]; simp
  exact ints_same a b this (by omega)

theorem law_NodeTells (s : Sl T.Snip) (hok : slOk T.Snip.ok s) : law20_NodeTells s = some true := by
  unfold law20_NodeTells
  obtain ⟨r, r1, r2⟩ := snips_left s hok 150 (by unfold BB; omega)
  rw [show (((150 : Nat) : Int)) = 150 from rfl] at r1
  simp only [r1, Option.bind_eq_bind, Option.bind_some]
  by_cases hr : r < 0
  · simp [hr, aw5]
  · have hw : sumN (s.l.map snW) ≤ 150 := by omega
    have hl : LightS s := by unfold LightS; omega
    obtain ⟨c, c1, c2⟩ := trees_may s hl
    obtain ⟨d1, d2⟩ := deeps_ok s hl
    obtain ⟨p1, p2⟩ := partss_ok s hl
    have hns : (s.l.flatMap snNs).length ≤ 900 := by
      have h1 := flat_len (fun x (_ : x ∈ s.l) => snNs_len x)
      have h2 := sumN_le (fun x (_ : x ∈ s.l) => snP_le x)
      omega
    obtain ⟨a, b, n1, n2, n3⟩ := numbers_ok s hok hl hns
    simp [hr, c1, c2, d1, d2, p1, p2, n1, n2, n3, aw5]
end Go.Proofs.YtmlmgbnhaenabaaGreat
